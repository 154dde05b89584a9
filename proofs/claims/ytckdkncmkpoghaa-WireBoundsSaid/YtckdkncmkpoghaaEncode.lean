/- The contract of wire.Encode: a chart's bytes, or none; and the law on a chart of one element: its walk. -/
import Derived.Test.YtckdkncmkpoghaaWire
set_option linter.unusedVariables false
set_option linter.unusedSimpArgs false
set_option maxRecDepth 10000
set_option maxHeartbeats 1000000
namespace Go.Proofs.K
open Go.Sl

theorem set1 (x y : Value) : (#[x] : Array Value).setIfInBounds 0 y = #[y] := rfl

theorem wire_encode_no (s w : World) (v : Value) (l : List El) (F : List HItem) (hR : ¬ RightC l) (hv : ViewsC F v l) (hs : Sat s w F) :
    Calls P n_wire_Encode #[v] w (Ret s (fun _ : Unit => .tuple #[.slice none 0 0, .int .i64 1]) (fun _ => F) (fun _ => True)) := by
  refine enter K.fn_wire_Encode rfl K.nt_wire_Encode rfl hs ?_
  clear hs w; intro a w h
  refine c_seq (c_region ?_)
  refine wv h (r_assign h rfl) rfl ?_
  clear h a w; intro a w h
  refine wv h (r_assign h rfl) rfl ?_
  clear h a w; intro a w h
  refine wnil (c_then ?_)
  refine c_seq ?_
  refine c_seq (c_region ?_)
  refine wv h (r_move h rfl) rfl ?_
  clear h a w; intro a w h
  refine wl rfl (op_call h rfl K.go_wire_Right (wire_right s _ v l _ hv h.2) rfl ?_)
  clear h a w; intro x a w hx h
  obtain rfl : x = false := by
    cases x
    · rfl
    · exact absurd (hx.1 rfl) hR
  refine wv h (r_not h rfl) rfl ?_
  clear h a w; intro a w h
  refine wnil (c_then ?_)
  refine c_true h rfl ?_
  refine c_seq (c_region ?_)
  refine wv h (r_assign h rfl) rfl ?_
  clear h a w; intro a w h
  refine wv h (r_assign h rfl) rfl ?_
  clear h a w; intro a w h
  refine wnil (c_then ?_)
  refine c_ret ?_
  exact ret2 h rfl rfl rfl ⟨(), rfl, h.2, trivial⟩

theorem wire_encode (s w : World) (v : Value) (l : List El) (F : List HItem) (hR : RightC l) (hv : ViewsC F v l) (hs : Sat s w F) :
    Calls P n_wire_Encode #[v] w (Ret s (fun v : Value => .tuple #[v, .int .i64 0]) (fun v => OwnB v (encC l) :: F) (fun _ => True)) := by
  have hl40 := hR.2.1
  have hlb := numN_len9 l.length (by omega)
  refine enter K.fn_wire_Encode rfl K.nt_wire_Encode rfl hs ?_
  clear hs w; intro a w h
  refine c_seq (c_region ?_)
  refine wv h (r_assign h rfl) rfl ?_
  clear h a w; intro a w h
  refine wv h (r_assign h rfl) rfl ?_
  clear h a w; intro a w h
  refine wnil (c_then ?_)
  refine c_seq ?_
  refine c_seq (c_region ?_)
  refine wv h (r_move h rfl) rfl ?_
  clear h a w; intro a w h
  refine wl rfl (op_call h rfl K.go_wire_Right (wire_right s _ v l _ hv h.2) rfl ?_)
  clear h a w; intro x a w hx h
  obtain rfl : x = true := hx.2 hR
  refine wv h (r_not h rfl) rfl ?_
  clear h a w; intro a w h
  refine wnil (c_then ?_)
  refine c_false h rfl ?_
  refine c_skip ?_
  refine c_then ?_
  refine c_seq (c_region ?_)
  refine wl rfl (op_alloc h K.z_digit_Pen rfl ?_)
  clear h a w; intro b a w h
  refine wl rfl (op_buildSlice h K.u_S_uint8 K.sz_uint8 K.z_uint8 rfl rfl rfl rfl rfl (by simp [Value.cells, bv, w32, w64, sv]) rfl ?_)
  clear h a w; intro b2 a w h
  refine wl rfl (op_lit h rfl K.u_S_uint8 K.u_uint8 0 rfl rfl ?_)
  clear h a w; intro a w h
  replace h := St.toOwnb h [67, 49] (NF.past 2) rfl rfl
  replace h := (h.addNilb).front 2 rfl
  refine wl rfl (op_call h rfl K.go_digit_Pen_Raw (pen_raw s _ b 0 _ _ (.slice none 0 0) _ [] [67, 49] _ rfl (by simp) (ViewsB.own 0 rfl) h.2) rfl ?_)
  clear h a w; intro pv1 a w hx1 h
  refine wv h (r_move h rfl) rfl ?_
  clear h a w; intro a w h
  refine wv h (r_lenV h rfl K.u_api_Chart (Views.of_drop 3 hv)) rfl ?_
  clear h a w; intro a w h
  refine wl rfl (op_call h rfl K.go_digit_Pen_Num (pen_num s _ b 0 _ _ pv1 _ l.length _ (by omega) rfl (by simp) h.2) rfl ?_)
  clear h a w; intro pv2 a w hx2 h
  replace h := (h.front 2 rfl).drop 1
  rw [show ([] : List UInt8) ++ [67, 49] ++ numN l.length = [67, 49] ++ numN l.length ++ encEs 0 (l.take 0) by simp [encEs]] at h
  refine wv h (r_assign h rfl) rfl ?_
  clear h a w; intro a w h
  refine wnil (c_then ?_)
  refine c_seq (c_region ?_)
  refine wv h (r_assign h rfl) rfl ?_
  clear h a w; intro a w h
  refine wnil (c_then ?_)
  refine c_seq ?_
  refine c_seq (c_region ?_)
  refine wv h (r_move h rfl) rfl ?_
  clear h a w; intro a w h
  refine wv h (r_lenV h rfl K.u_api_Chart (Views.of_drop 2 hv)) rfl ?_
  clear h a w; intro a w h
  refine wv h (r_move h rfl) rfl ?_
  clear h a w; intro a w h
  refine wnil (c_then ?_)
  refine c_block ?_
  refine c_loop (X := Nat × Value) (fun x => [(4, .pointer (some ⟨b, 0, none⟩)), (5, .int .i64 (lastId 0 (l.take x.1))), (18, v), (19, .int .i64 (l.length : Int)), (20, .int .i64 (x.1 : Int))])
    (fun x => Blk b (.cells #[x.2] t_digit_Pen) :: OwnB x.2 ([67, 49] ++ numN l.length ++ encEs 0 (l.take x.1)) :: F) (fun x => x.1 ≤ l.length) (fun x => l.length - x.1) (0, pv2) (h.keep [4, 5, 18, 19, 20]) (by simp) ?_
  clear h a w; intro x a w hx h
  obtain ⟨i, pv⟩ := x
  simp only at hx h
  as_aux_lemma =>
    refine c_seq (c_region ?_)
    refine wv h (r_bin h rfl rfl (B.lss_int)) rfl ?_
    clear h a w; intro a w h
    refine wnil (c_then ?_)
    refine c_seq ?_
    refine c_condD h rfl (fun ht2 => ?_) (fun ht2 => ?_)
    ·
      obtain ⟨e, he⟩ : ∃ e, l[i]? = some e := ⟨l[i]'(by omega), by simp⟩
      have hmem : e ∈ l := List.mem_of_getElem? he
      have hts : l.take (i + 1) = l.take i ++ [e] := by rw [List.take_add_one, he]; rfl
      have hok := hR.1 e hmem
      obtain ⟨h1, h2, h3, h4⟩ := hok
      simp only [List.mem_cons, List.not_mem_nil, or_false, forall_eq_or_imp, forall_eq] at h1 h2
      obtain ⟨⟨p1, p2⟩, ⟨p3, p4⟩, ⟨p5, p6⟩, p7, p8⟩ := h1
      obtain ⟨q1, q2, q3, q4⟩ := h2
      have hk := e.kind.toNat_lt
      have hlast := lastId_ok (l.take i) (fun x hx => hR.1 x (List.mem_of_mem_take hx))
      have hrl := rises_last hR.2.2 he h3
      have hel := encEs_len (l.take i) (fun x hx => hR.1 x (List.mem_of_mem_take hx))
      rw [List.length_take] at hel
      have hAl : ([67, 49] ++ numN l.length ++ encEs 0 (l.take i)).length ≤ 7000 := by simp only [List.length_append, List.length_cons, List.length_nil]; omega
      have hAe : [67, 49] ++ numN l.length ++ encEs 0 (l.take (i + 1)) = ([67, 49] ++ numN l.length ++ encEs 0 (l.take i)) ++ encE (lastId 0 (l.take i)) e := by rw [hts, encEs_snoc]; simp only [List.append_assoc]
      have hid : lastId 0 (l.take (i + 1)) = e.id := by rw [hts, lastId_snoc]
      generalize ([67, 49] ++ numN l.length ++ encEs 0 (l.take i)) = A at h hAl hAe
      generalize lastId 0 (l.take i) = last at h hlast hrl hAe
      have hsub : e.id - last = (((e.id - last).toNat : Nat) : Int) := by omega
      have a1 := numN_len9 (e.id - last).toNat (by omega)
      have a2 := numN_len9 e.kind.toNat (by omega)
      have a3 := numN_len9 e.parent.toNat (by omega)
      have a4 := numN_len9 e.order.toNat (by omega)
      have a5 := numN_len9 e.src.toNat (by omega)
      have a6 := numN_len9 e.dst.toNat (by omega)
      have a7 := numN_len9 e.name.length (by omega)
      have a8 := numN_len9 e.event.length (by omega)
      have a9 := numN_len9 e.guard.length (by omega)
      have a10 := numN_len9 e.action.length (by omega)
      have v2 : (cellsE e).toArray[0 + 2]? = some (.int .i64 (e.parent.toNat : Int)) := by rw [Int.toNat_of_nonneg p1]; rfl
      have v3 : (cellsE e).toArray[0 + 3]? = some (.int .i64 (e.order.toNat : Int)) := by rw [Int.toNat_of_nonneg p3]; rfl
      have v5 : (cellsE e).toArray[0 + 5]? = some (.int .i64 (e.src.toNat : Int)) := by rw [Int.toNat_of_nonneg p5]; rfl
      have v6 : (cellsE e).toArray[0 + 6]? = some (.int .i64 (e.dst.toNat : Int)) := by rw [Int.toNat_of_nonneg p7]; rfl
      refine c_skip ?_
      refine c_then ?_
      refine c_seq ?_
      refine c_block ?_
      refine c_seq (c_region ?_)
      refine wl rfl (op_indexAddr h rfl rfl K.u_api_Chart K.sz_api_Elem (Views.of_drop 2 hv) i rfl (by omega) (cellsC_at l i e he) rfl ?_)
      clear h a w; intro p a w hp h
      refine wv h (r_loadCA h rfl K.u_api_Elem rfl K.sz_api_Elem hp rfl) rfl ?_
      clear h a w; intro a w h
      refine wl rfl (op_alloc h K.z_api_Elem rfl ?_)
      clear h a w; intro be a w h
      refine wl rfl (op_storeAgg h rfl rfl K.sz_api_Elem (cellsE_one e) 0 rfl rfl (NF.zero 10) (vs' := (cellsE e).toArray) rfl ?_)
      clear h a w; intro a w h
      replace h := (h.front 2 rfl).front 2 rfl
      refine wnil (c_then ?_)
      refine c_seq (c_held ((Blk be (.cells (cellsE e).toArray t_api_Elem) :: F)) 22 K.mixed rfl h ?_)
      clear h a w; intro a w h
      refine h_take (listed' := #[true, false, false, false, false, false, false, false, false, false, false, false, false, false, false, false, false, false, false, false, false, false]) h 0 (by as_aux_lemma => kernel_rfl) rfl (by as_aux_lemma => kernel_rfl) (by as_aux_lemma => kernel_rfl) (by as_aux_lemma => kernel_rfl) (fun _ _ _ hh => hh) (by first | exact h.2 | exact h.2.drop 1 | exact h.2.drop 2 | exact h.2.drop 3 | exact h.2.drop 4 | exact h.2.drop 5 | exact h.2.drop 6) (fun w hw => r_move ⟨h.1, hw⟩ rfl) rfl ?_
      clear h a w; intro a w h
      refine h_take (listed' := #[true, true, false, false, false, false, false, false, false, false, false, false, false, false, false, false, false, false, false, false, false, false]) h 1 (by as_aux_lemma => kernel_rfl) rfl (by as_aux_lemma => kernel_rfl) (by as_aux_lemma => kernel_rfl) (by as_aux_lemma => kernel_rfl) (fun _ _ _ hh => hh) (by first | exact h.2 | exact h.2.drop 1 | exact h.2.drop 2 | exact h.2.drop 3 | exact h.2.drop 4 | exact h.2.drop 5 | exact h.2.drop 6) (fun w hw => r_fieldAddr0 ⟨h.1, hw⟩ rfl K.u_api_Elem rfl K.sz_int rfl rfl) rfl ?_
      clear h a w; intro a w h
      refine h_take (listed' := #[true, true, true, false, false, false, false, false, false, false, false, false, false, false, false, false, false, false, false, false, false, false]) h 2 (by as_aux_lemma => kernel_rfl) rfl (by as_aux_lemma => kernel_rfl) (by as_aux_lemma => kernel_rfl) (by as_aux_lemma => kernel_rfl) (fun _ _ _ hh => hh) (by first | exact h.2 | exact h.2.drop 1 | exact h.2.drop 2 | exact h.2.drop 3 | exact h.2.drop 4 | exact h.2.drop 5 | exact h.2.drop 6) (fun w hw => r_load (v := .int .i64 e.id) ⟨h.1, hw⟩ rfl K.u_int rfl 0 rfl rfl) rfl ?_
      clear h a w; intro a w h
      refine h_take (listed' := #[true, true, true, true, false, false, false, false, false, false, false, false, false, false, false, false, false, false, false, false, false, false]) h 3 (by as_aux_lemma => kernel_rfl) rfl (by as_aux_lemma => kernel_rfl) (by as_aux_lemma => kernel_rfl) (by as_aux_lemma => kernel_rfl) (fun _ _ _ hh => hh) (by first | exact h.2 | exact h.2.drop 1 | exact h.2.drop 2 | exact h.2.drop 3 | exact h.2.drop 4 | exact h.2.drop 5 | exact h.2.drop 6) (fun w hw => r_move ⟨h.1, hw⟩ rfl) rfl ?_
      clear h a w; intro a w h
      refine h_take (listed' := #[true, true, true, true, true, false, false, false, false, false, false, false, false, false, false, false, false, false, false, false, false, false]) h 4 (by as_aux_lemma => kernel_rfl) rfl (by as_aux_lemma => kernel_rfl) (by as_aux_lemma => kernel_rfl) (by as_aux_lemma => kernel_rfl) (fun _ _ _ hh => hh) (by first | exact h.2 | exact h.2.drop 1 | exact h.2.drop 2 | exact h.2.drop 3 | exact h.2.drop 4 | exact h.2.drop 5 | exact h.2.drop 6) (fun w hw => r_bin ⟨h.1, hw⟩ rfl rfl (B.sub_i64 (by omega) (by omega))) rfl ?_
      clear h a w; intro a w h
      rw [hsub] at h
      refine h_take (listed' := #[true, true, true, true, true, false, true, false, false, false, false, false, false, false, false, false, false, false, false, false, false, false]) h 6 (by as_aux_lemma => kernel_rfl) rfl (by as_aux_lemma => kernel_rfl) (by as_aux_lemma => kernel_rfl) (by as_aux_lemma => kernel_rfl) (fun _ _ _ hh => hh) (by first | exact h.2 | exact h.2.drop 1 | exact h.2.drop 2 | exact h.2.drop 3 | exact h.2.drop 4 | exact h.2.drop 5 | exact h.2.drop 6) (fun w hw => r_fieldAddr ⟨h.1, hw⟩ 1 rfl K.u_api_Elem rfl K.sz_uint8 rfl rfl) rfl ?_
      clear h a w; intro a w h
      refine h_take (listed' := #[true, true, true, true, true, false, true, true, false, false, false, false, false, false, false, false, false, false, false, false, false, false]) h 7 (by as_aux_lemma => kernel_rfl) rfl (by as_aux_lemma => kernel_rfl) (by as_aux_lemma => kernel_rfl) (by as_aux_lemma => kernel_rfl) (fun _ _ _ hh => hh) (by first | exact h.2 | exact h.2.drop 1 | exact h.2.drop 2 | exact h.2.drop 3 | exact h.2.drop 4 | exact h.2.drop 5 | exact h.2.drop 6) (fun w hw => r_load (v := bv e.kind) ⟨h.1, hw⟩ rfl K.u_uint8 rfl 0 rfl rfl) rfl ?_
      clear h a w; intro a w h
      refine h_take (listed' := #[true, true, true, true, true, false, true, true, true, false, false, false, false, false, false, false, false, false, false, false, false, false]) h 8 (by as_aux_lemma => kernel_rfl) rfl (by as_aux_lemma => kernel_rfl) (by as_aux_lemma => kernel_rfl) (by as_aux_lemma => kernel_rfl) (fun _ _ _ hh => hh) (by first | exact h.2 | exact h.2.drop 1 | exact h.2.drop 2 | exact h.2.drop 3 | exact h.2.drop 4 | exact h.2.drop 5 | exact h.2.drop 6) (fun w hw => r_conv ⟨h.1, hw⟩ rfl K.u_uint8 K.u_int (C.i64_u8) ) rfl ?_
      clear h a w; intro a w h
      refine h_take (listed' := #[true, true, true, true, true, false, true, true, true, false, true, false, false, false, false, false, false, false, false, false, false, false]) h 10 (by as_aux_lemma => kernel_rfl) rfl (by as_aux_lemma => kernel_rfl) (by as_aux_lemma => kernel_rfl) (by as_aux_lemma => kernel_rfl) (fun _ _ _ hh => hh) (by first | exact h.2 | exact h.2.drop 1 | exact h.2.drop 2 | exact h.2.drop 3 | exact h.2.drop 4 | exact h.2.drop 5 | exact h.2.drop 6) (fun w hw => r_fieldAddr ⟨h.1, hw⟩ 2 rfl K.u_api_Elem rfl K.sz_int rfl rfl) rfl ?_
      clear h a w; intro a w h
      refine h_take (listed' := #[true, true, true, true, true, false, true, true, true, false, true, true, false, false, false, false, false, false, false, false, false, false]) h 11 (by as_aux_lemma => kernel_rfl) rfl (by as_aux_lemma => kernel_rfl) (by as_aux_lemma => kernel_rfl) (by as_aux_lemma => kernel_rfl) (fun _ _ _ hh => hh) (by first | exact h.2 | exact h.2.drop 1 | exact h.2.drop 2 | exact h.2.drop 3 | exact h.2.drop 4 | exact h.2.drop 5 | exact h.2.drop 6) (fun w hw => r_load ⟨h.1, hw⟩ rfl K.u_int rfl 0 rfl v2) rfl ?_
      clear h a w; intro a w h
      refine h_take (listed' := #[true, true, true, true, true, false, true, true, true, false, true, true, false, true, false, false, false, false, false, false, false, false]) h 13 (by as_aux_lemma => kernel_rfl) rfl (by as_aux_lemma => kernel_rfl) (by as_aux_lemma => kernel_rfl) (by as_aux_lemma => kernel_rfl) (fun _ _ _ hh => hh) (by first | exact h.2 | exact h.2.drop 1 | exact h.2.drop 2 | exact h.2.drop 3 | exact h.2.drop 4 | exact h.2.drop 5 | exact h.2.drop 6) (fun w hw => r_fieldAddr ⟨h.1, hw⟩ 3 rfl K.u_api_Elem rfl K.sz_int rfl rfl) rfl ?_
      clear h a w; intro a w h
      refine h_take (listed' := #[true, true, true, true, true, false, true, true, true, false, true, true, false, true, true, false, false, false, false, false, false, false]) h 14 (by as_aux_lemma => kernel_rfl) rfl (by as_aux_lemma => kernel_rfl) (by as_aux_lemma => kernel_rfl) (by as_aux_lemma => kernel_rfl) (fun _ _ _ hh => hh) (by first | exact h.2 | exact h.2.drop 1 | exact h.2.drop 2 | exact h.2.drop 3 | exact h.2.drop 4 | exact h.2.drop 5 | exact h.2.drop 6) (fun w hw => r_load ⟨h.1, hw⟩ rfl K.u_int rfl 0 rfl v3) rfl ?_
      clear h a w; intro a w h
      refine h_take (listed' := #[true, true, true, true, true, false, true, true, true, false, true, true, false, true, true, false, true, false, false, false, false, false]) h 16 (by as_aux_lemma => kernel_rfl) rfl (by as_aux_lemma => kernel_rfl) (by as_aux_lemma => kernel_rfl) (by as_aux_lemma => kernel_rfl) (fun _ _ _ hh => hh) (by first | exact h.2 | exact h.2.drop 1 | exact h.2.drop 2 | exact h.2.drop 3 | exact h.2.drop 4 | exact h.2.drop 5 | exact h.2.drop 6) (fun w hw => r_fieldAddr ⟨h.1, hw⟩ 5 rfl K.u_api_Elem rfl K.sz_int rfl rfl) rfl ?_
      clear h a w; intro a w h
      refine h_take (listed' := #[true, true, true, true, true, false, true, true, true, false, true, true, false, true, true, false, true, true, false, false, false, false]) h 17 (by as_aux_lemma => kernel_rfl) rfl (by as_aux_lemma => kernel_rfl) (by as_aux_lemma => kernel_rfl) (by as_aux_lemma => kernel_rfl) (fun _ _ _ hh => hh) (by first | exact h.2 | exact h.2.drop 1 | exact h.2.drop 2 | exact h.2.drop 3 | exact h.2.drop 4 | exact h.2.drop 5 | exact h.2.drop 6) (fun w hw => r_load ⟨h.1, hw⟩ rfl K.u_int rfl 0 rfl v5) rfl ?_
      clear h a w; intro a w h
      refine h_take (listed' := #[true, true, true, true, true, false, true, true, true, false, true, true, false, true, true, false, true, true, false, true, false, false]) h 19 (by as_aux_lemma => kernel_rfl) rfl (by as_aux_lemma => kernel_rfl) (by as_aux_lemma => kernel_rfl) (by as_aux_lemma => kernel_rfl) (fun _ _ _ hh => hh) (by first | exact h.2 | exact h.2.drop 1 | exact h.2.drop 2 | exact h.2.drop 3 | exact h.2.drop 4 | exact h.2.drop 5 | exact h.2.drop 6) (fun w hw => r_fieldAddr ⟨h.1, hw⟩ 6 rfl K.u_api_Elem rfl K.sz_int rfl rfl) rfl ?_
      clear h a w; intro a w h
      refine h_take (listed' := #[true, true, true, true, true, false, true, true, true, false, true, true, false, true, true, false, true, true, false, true, true, false]) h 20 (by as_aux_lemma => kernel_rfl) rfl (by as_aux_lemma => kernel_rfl) (by as_aux_lemma => kernel_rfl) (by as_aux_lemma => kernel_rfl) (fun _ _ _ hh => hh) (by first | exact h.2 | exact h.2.drop 1 | exact h.2.drop 2 | exact h.2.drop 3 | exact h.2.drop 4 | exact h.2.drop 5 | exact h.2.drop 6) (fun w hw => r_load ⟨h.1, hw⟩ rfl K.u_int rfl 0 rfl v6) rfl ?_
      clear h a w; intro a w h
      refine h_only (listed' := #[true, true, true, true, true, true, true, true, true, false, true, true, false, true, true, false, true, true, false, true, true, false]) 5 (by as_aux_lemma => kernel_rfl) rfl rfl (by as_aux_lemma => kernel_rfl) ?_
      refine op_call h rfl K.go_digit_Pen_Num (pen_num s _ b 0 _ _ pv A (e.id - last).toNat _ (by omega) rfl (by omega) h.2) rfl ?_
      clear h a w; intro w1 a w hy1 h
      simp only [set1] at h
      generalize hA1 : A ++ numN (e.id - last).toNat = A1 at h
      have l1 : A1.length ≤ 7030 := by rw [← hA1]; simp only [List.length_append]; omega
      refine ⟨(by first | exact h.2 | exact h.2.drop 1 | exact h.2.drop 2 | exact h.2.drop 3 | exact h.2.drop 4 | exact h.2.drop 5 | exact h.2.drop 6), ?_⟩
      refine h_only (listed' := #[true, true, true, true, true, true, true, true, true, true, true, true, false, true, true, false, true, true, false, true, true, false]) 9 (by as_aux_lemma => kernel_rfl) rfl rfl (by as_aux_lemma => kernel_rfl) ?_
      refine op_call h rfl K.go_digit_Pen_Num (pen_num s _ b 0 _ _ w1 A1 e.kind.toNat _ (by omega) rfl (by omega) h.2) rfl ?_
      clear h a w; intro w2 a w hy2 h
      simp only [set1] at h
      generalize hA2 : A1 ++ numN e.kind.toNat = A2 at h
      have l2 : A2.length ≤ 7060 := by rw [← hA2]; simp only [List.length_append]; omega
      refine ⟨(by first | exact h.2 | exact h.2.drop 1 | exact h.2.drop 2 | exact h.2.drop 3 | exact h.2.drop 4 | exact h.2.drop 5 | exact h.2.drop 6), ?_⟩
      refine h_only (listed' := #[true, true, true, true, true, true, true, true, true, true, true, true, true, true, true, false, true, true, false, true, true, false]) 12 (by as_aux_lemma => kernel_rfl) rfl rfl (by as_aux_lemma => kernel_rfl) ?_
      refine op_call h rfl K.go_digit_Pen_Num (pen_num s _ b 0 _ _ w2 A2 e.parent.toNat _ (by omega) rfl (by omega) h.2) rfl ?_
      clear h a w; intro w3 a w hy3 h
      simp only [set1] at h
      generalize hA3 : A2 ++ numN e.parent.toNat = A3 at h
      have l3 : A3.length ≤ 7090 := by rw [← hA3]; simp only [List.length_append]; omega
      refine ⟨(by first | exact h.2 | exact h.2.drop 1 | exact h.2.drop 2 | exact h.2.drop 3 | exact h.2.drop 4 | exact h.2.drop 5 | exact h.2.drop 6), ?_⟩
      refine h_only (listed' := #[true, true, true, true, true, true, true, true, true, true, true, true, true, true, true, true, true, true, false, true, true, false]) 15 (by as_aux_lemma => kernel_rfl) rfl rfl (by as_aux_lemma => kernel_rfl) ?_
      refine op_call h rfl K.go_digit_Pen_Num (pen_num s _ b 0 _ _ w3 A3 e.order.toNat _ (by omega) rfl (by omega) h.2) rfl ?_
      clear h a w; intro w4 a w hy4 h
      simp only [set1] at h
      generalize hA4 : A3 ++ numN e.order.toNat = A4 at h
      have l4 : A4.length ≤ 7120 := by rw [← hA4]; simp only [List.length_append]; omega
      refine ⟨(by first | exact h.2 | exact h.2.drop 1 | exact h.2.drop 2 | exact h.2.drop 3 | exact h.2.drop 4 | exact h.2.drop 5 | exact h.2.drop 6), ?_⟩
      refine h_only (listed' := #[true, true, true, true, true, true, true, true, true, true, true, true, true, true, true, true, true, true, true, true, true, false]) 18 (by as_aux_lemma => kernel_rfl) rfl rfl (by as_aux_lemma => kernel_rfl) ?_
      refine op_call h rfl K.go_digit_Pen_Num (pen_num s _ b 0 _ _ w4 A4 e.src.toNat _ (by omega) rfl (by omega) h.2) rfl ?_
      clear h a w; intro w5 a w hy5 h
      simp only [set1] at h
      generalize hA5 : A4 ++ numN e.src.toNat = A5 at h
      have l5 : A5.length ≤ 7150 := by rw [← hA5]; simp only [List.length_append]; omega
      refine ⟨(by first | exact h.2 | exact h.2.drop 1 | exact h.2.drop 2 | exact h.2.drop 3 | exact h.2.drop 4 | exact h.2.drop 5 | exact h.2.drop 6), ?_⟩
      refine h_only (listed' := #[true, true, true, true, true, true, true, true, true, true, true, true, true, true, true, true, true, true, true, true, true, true]) 21 (by as_aux_lemma => kernel_rfl) rfl rfl (by as_aux_lemma => kernel_rfl) ?_
      refine op_call h rfl K.go_digit_Pen_Num (pen_num s _ b 0 _ _ w5 A5 e.dst.toNat _ (by omega) rfl (by omega) h.2) rfl ?_
      clear h a w; intro w6 a w hy6 h
      simp only [set1] at h
      generalize hA6 : A5 ++ numN e.dst.toNat = A6 at h
      have l6 : A6.length ≤ 7180 := by rw [← hA6]; simp only [List.length_append]; omega
      refine ⟨(by first | exact h.2 | exact h.2.drop 1 | exact h.2.drop 2 | exact h.2.drop 3 | exact h.2.drop 4 | exact h.2.drop 5 | exact h.2.drop 6), ?_⟩
      refine h_done (by kernel_rfl) ?_
      refine c_then ?_
      refine c_seq (c_held ((Blk be (.cells (cellsE e).toArray t_api_Elem) :: F)) 13 K.mixed rfl h ?_)
      clear h a w; intro a w h
      refine h_take (listed' := #[true, false, false, false, false, false, false, false, false, false, false, false, false]) h 0 (by as_aux_lemma => kernel_rfl) rfl (by as_aux_lemma => kernel_rfl) (by as_aux_lemma => kernel_rfl) (by as_aux_lemma => kernel_rfl) (fun _ _ _ hh => hh) (by first | exact h.2 | exact h.2.drop 1 | exact h.2.drop 2 | exact h.2.drop 3 | exact h.2.drop 4 | exact h.2.drop 5 | exact h.2.drop 6) (fun w hw => r_move ⟨h.1, hw⟩ rfl) rfl ?_
      clear h a w; intro a w h
      refine h_take (listed' := #[true, true, false, false, false, false, false, false, false, false, false, false, false]) h 1 (by as_aux_lemma => kernel_rfl) rfl (by as_aux_lemma => kernel_rfl) (by as_aux_lemma => kernel_rfl) (by as_aux_lemma => kernel_rfl) (fun _ _ _ hh => hh) (by first | exact h.2 | exact h.2.drop 1 | exact h.2.drop 2 | exact h.2.drop 3 | exact h.2.drop 4 | exact h.2.drop 5 | exact h.2.drop 6) (fun w hw => r_fieldAddr ⟨h.1, hw⟩ 4 rfl K.u_api_Elem rfl K.sz_string rfl rfl) rfl ?_
      clear h a w; intro a w h
      refine h_take (listed' := #[true, true, true, false, false, false, false, false, false, false, false, false, false]) h 2 (by as_aux_lemma => kernel_rfl) rfl (by as_aux_lemma => kernel_rfl) (by as_aux_lemma => kernel_rfl) (by as_aux_lemma => kernel_rfl) (fun _ _ _ hh => hh) (by first | exact h.2 | exact h.2.drop 1 | exact h.2.drop 2 | exact h.2.drop 3 | exact h.2.drop 4 | exact h.2.drop 5 | exact h.2.drop 6) (fun w hw => r_load (v := sv e.name) ⟨h.1, hw⟩ rfl K.u_string rfl 0 rfl rfl) rfl ?_
      clear h a w; intro a w h
      refine h_take (listed' := #[true, true, true, false, true, false, false, false, false, false, false, false, false]) h 4 (by as_aux_lemma => kernel_rfl) rfl (by as_aux_lemma => kernel_rfl) (by as_aux_lemma => kernel_rfl) (by as_aux_lemma => kernel_rfl) (fun _ _ _ hh => hh) (by first | exact h.2 | exact h.2.drop 1 | exact h.2.drop 2 | exact h.2.drop 3 | exact h.2.drop 4 | exact h.2.drop 5 | exact h.2.drop 6) (fun w hw => r_fieldAddr ⟨h.1, hw⟩ 7 rfl K.u_api_Elem rfl K.sz_string rfl rfl) rfl ?_
      clear h a w; intro a w h
      refine h_take (listed' := #[true, true, true, false, true, true, false, false, false, false, false, false, false]) h 5 (by as_aux_lemma => kernel_rfl) rfl (by as_aux_lemma => kernel_rfl) (by as_aux_lemma => kernel_rfl) (by as_aux_lemma => kernel_rfl) (fun _ _ _ hh => hh) (by first | exact h.2 | exact h.2.drop 1 | exact h.2.drop 2 | exact h.2.drop 3 | exact h.2.drop 4 | exact h.2.drop 5 | exact h.2.drop 6) (fun w hw => r_load (v := sv e.event) ⟨h.1, hw⟩ rfl K.u_string rfl 0 rfl rfl) rfl ?_
      clear h a w; intro a w h
      refine h_take (listed' := #[true, true, true, false, true, true, false, true, false, false, false, false, false]) h 7 (by as_aux_lemma => kernel_rfl) rfl (by as_aux_lemma => kernel_rfl) (by as_aux_lemma => kernel_rfl) (by as_aux_lemma => kernel_rfl) (fun _ _ _ hh => hh) (by first | exact h.2 | exact h.2.drop 1 | exact h.2.drop 2 | exact h.2.drop 3 | exact h.2.drop 4 | exact h.2.drop 5 | exact h.2.drop 6) (fun w hw => r_fieldAddr ⟨h.1, hw⟩ 8 rfl K.u_api_Elem rfl K.sz_string rfl rfl) rfl ?_
      clear h a w; intro a w h
      refine h_take (listed' := #[true, true, true, false, true, true, false, true, true, false, false, false, false]) h 8 (by as_aux_lemma => kernel_rfl) rfl (by as_aux_lemma => kernel_rfl) (by as_aux_lemma => kernel_rfl) (by as_aux_lemma => kernel_rfl) (fun _ _ _ hh => hh) (by first | exact h.2 | exact h.2.drop 1 | exact h.2.drop 2 | exact h.2.drop 3 | exact h.2.drop 4 | exact h.2.drop 5 | exact h.2.drop 6) (fun w hw => r_load (v := sv e.guard) ⟨h.1, hw⟩ rfl K.u_string rfl 0 rfl rfl) rfl ?_
      clear h a w; intro a w h
      refine h_take (listed' := #[true, true, true, false, true, true, false, true, true, false, true, false, false]) h 10 (by as_aux_lemma => kernel_rfl) rfl (by as_aux_lemma => kernel_rfl) (by as_aux_lemma => kernel_rfl) (by as_aux_lemma => kernel_rfl) (fun _ _ _ hh => hh) (by first | exact h.2 | exact h.2.drop 1 | exact h.2.drop 2 | exact h.2.drop 3 | exact h.2.drop 4 | exact h.2.drop 5 | exact h.2.drop 6) (fun w hw => r_fieldAddr ⟨h.1, hw⟩ 9 rfl K.u_api_Elem rfl K.sz_string rfl rfl) rfl ?_
      clear h a w; intro a w h
      refine h_take (listed' := #[true, true, true, false, true, true, false, true, true, false, true, true, false]) h 11 (by as_aux_lemma => kernel_rfl) rfl (by as_aux_lemma => kernel_rfl) (by as_aux_lemma => kernel_rfl) (by as_aux_lemma => kernel_rfl) (fun _ _ _ hh => hh) (by first | exact h.2 | exact h.2.drop 1 | exact h.2.drop 2 | exact h.2.drop 3 | exact h.2.drop 4 | exact h.2.drop 5 | exact h.2.drop 6) (fun w hw => r_load (v := sv e.action) ⟨h.1, hw⟩ rfl K.u_string rfl 0 rfl rfl) rfl ?_
      clear h a w; intro a w h
      refine h_only (listed' := #[true, true, true, true, true, true, false, true, true, false, true, true, false]) 3 (by as_aux_lemma => kernel_rfl) rfl rfl (by as_aux_lemma => kernel_rfl) ?_
      refine op_call h rfl K.go_digit_Pen_Text (pen_text s _ b 0 _ _ w6 A6 e.name _ rfl (by omega) h.2) rfl ?_
      clear h a w; intro w7 a w hy7 h
      simp only [set1] at h
      generalize hA7 : A6 ++ (numN e.name.length ++ e.name) = A7 at h
      have l7 : A7.length ≤ 7210 := by rw [← hA7]; simp only [List.length_append]; omega
      refine ⟨(by first | exact h.2 | exact h.2.drop 1 | exact h.2.drop 2 | exact h.2.drop 3 | exact h.2.drop 4 | exact h.2.drop 5 | exact h.2.drop 6), ?_⟩
      refine h_only (listed' := #[true, true, true, true, true, true, true, true, true, false, true, true, false]) 6 (by as_aux_lemma => kernel_rfl) rfl rfl (by as_aux_lemma => kernel_rfl) ?_
      refine op_call h rfl K.go_digit_Pen_Text (pen_text s _ b 0 _ _ w7 A7 e.event _ rfl (by omega) h.2) rfl ?_
      clear h a w; intro w8 a w hy8 h
      simp only [set1] at h
      generalize hA8 : A7 ++ (numN e.event.length ++ e.event) = A8 at h
      have l8 : A8.length ≤ 7240 := by rw [← hA8]; simp only [List.length_append]; omega
      refine ⟨(by first | exact h.2 | exact h.2.drop 1 | exact h.2.drop 2 | exact h.2.drop 3 | exact h.2.drop 4 | exact h.2.drop 5 | exact h.2.drop 6), ?_⟩
      refine h_only (listed' := #[true, true, true, true, true, true, true, true, true, true, true, true, false]) 9 (by as_aux_lemma => kernel_rfl) rfl rfl (by as_aux_lemma => kernel_rfl) ?_
      refine op_call h rfl K.go_digit_Pen_Text (pen_text s _ b 0 _ _ w8 A8 e.guard _ rfl (by omega) h.2) rfl ?_
      clear h a w; intro w9 a w hy9 h
      simp only [set1] at h
      generalize hA9 : A8 ++ (numN e.guard.length ++ e.guard) = A9 at h
      have l9 : A9.length ≤ 7270 := by rw [← hA9]; simp only [List.length_append]; omega
      refine ⟨(by first | exact h.2 | exact h.2.drop 1 | exact h.2.drop 2 | exact h.2.drop 3 | exact h.2.drop 4 | exact h.2.drop 5 | exact h.2.drop 6), ?_⟩
      refine h_only (listed' := #[true, true, true, true, true, true, true, true, true, true, true, true, true]) 12 (by as_aux_lemma => kernel_rfl) rfl rfl (by as_aux_lemma => kernel_rfl) ?_
      refine op_call h rfl K.go_digit_Pen_Text (pen_text s _ b 0 _ _ w9 A9 e.action _ rfl (by omega) h.2) rfl ?_
      clear h a w; intro w10 a w hy10 h
      simp only [set1] at h
      generalize hA10 : A9 ++ (numN e.action.length ++ e.action) = A10 at h
      have l10 : A10.length ≤ 7300 := by rw [← hA10]; simp only [List.length_append]; omega
      refine ⟨(by first | exact h.2 | exact h.2.drop 1 | exact h.2.drop 2 | exact h.2.drop 3 | exact h.2.drop 4 | exact h.2.drop 5 | exact h.2.drop 6), ?_⟩
      refine h_done (by kernel_rfl) ?_
      refine c_then ?_
      refine c_region ?_
      refine wv h (r_fieldAddr0 h rfl K.u_api_Elem rfl K.sz_int rfl rfl) rfl ?_
      clear h a w; intro a w h
      refine wv h (r_load (v := .int .i64 e.id) h rfl K.u_int rfl 2 rfl rfl) rfl ?_
      clear h a w; intro a w h
      refine wv h (r_assign h rfl) rfl ?_
      clear h a w; intro a w h
      refine wnil ?_
      refine b_normal ?_
      refine c_then ?_
      refine c_region ?_
      refine wv h (r_bin h rfl rfl (B.add_i64 (by omega) (by omega))) rfl ?_
      clear h a w; intro a w h
      refine wv h (r_move h rfl) rfl ?_
      clear h a w; intro a w h
      refine wnil ?_
      refine ⟨(i + 1, w10), ?_, ?_, ?_⟩
      · show St _ _ _ _ [_, (5, .int .i64 (lastId 0 (l.take (i + 1)))), _, _, _] (Blk b (.cells #[w10] t_digit_Pen) :: OwnB w10 ([67, 49] ++ numN l.length ++ encEs 0 (l.take (i + 1))) :: F)
        rw [hid, hAe]
        have e1 : A ++ encE last e = A ++ numN (e.id - last).toNat ++ numN e.kind.toNat ++ numN e.parent.toNat ++ numN e.order.toNat ++ numN e.src.toNat ++ numN e.dst.toNat ++
            (numN e.name.length ++ e.name) ++ (numN e.event.length ++ e.event) ++ (numN e.guard.length ++ e.guard) ++ (numN e.action.length ++ e.action) := by simp only [encE, List.append_assoc]
        subst hA1 hA2 hA3 hA4 hA5 hA6 hA7 hA8 hA9 hA10
        rw [e1]
        exact ((h.front 2 rfl).drop 1).keep [4, 5, 18, 19, 20]
      · show i + 1 ≤ l.length; omega
      · show l.length - (i + 1) < l.length - i; omega
    ·
      have hil : i = l.length := by omega
      subst hil
      rw [List.take_length] at h
      refine c_exit ?_
      refine e_then ?_
      refine e_then ?_
      refine e_here ?_
      refine c_then ?_
      refine c_seq (c_region ?_)
      refine wv h (r_move h rfl) rfl ?_
      clear h a w; intro a w h
      refine wv h (r_nilCheck h rfl) rfl ?_
      clear h a w; intro a w h
      refine wv h (r_fieldAddr0 h rfl K.u_digit_Pen rfl K.sz_S_uint8 rfl rfl) rfl ?_
      clear h a w; intro a w h
      first
        | (refine wv h (r_load h rfl K.u_S_uint8 rfl 0 rfl rfl) rfl ?_)
        | (refine wv h (r_load h rfl K.u_S_uint8 rfl 1 rfl rfl) rfl ?_)
        | (refine wv h (r_load h rfl K.u_S_uint8 rfl 2 rfl rfl) rfl ?_)
        | (refine wv h (r_load h rfl K.u_S_uint8 rfl 3 rfl rfl) rfl ?_)
        | (refine wv h (r_load h rfl K.u_S_uint8 rfl 4 rfl rfl) rfl ?_)
        | (refine wv h (r_load h rfl K.u_S_uint8 rfl 5 rfl rfl) rfl ?_)
        | (refine wv h (r_load1 h rfl K.u_S_uint8 rfl (by assumption)) rfl ?_)
      clear h a w; intro a w h
      refine wv h (r_assign h rfl) rfl ?_
      clear h a w; intro a w h
      refine wv h (r_assign h rfl) rfl ?_
      clear h a w; intro a w h
      refine wnil (c_then ?_)
      refine c_ret ?_
      exact ret2 h rfl rfl rfl ⟨pv, rfl, h.2.drop 1, trivial⟩
end Go.Proofs.K
