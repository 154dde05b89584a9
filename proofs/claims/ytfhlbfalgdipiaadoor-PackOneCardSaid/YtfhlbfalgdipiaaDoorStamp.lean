/- The contracts of package stamp: one block, by the program's own loops. -/
import Derived.Test.YtfhlbfalgdipiaaDoorTab
import Derived.Test.YtfhlbfalgdipiaaDoorShaPure
set_option linter.unusedVariables false
set_option linter.unusedSimpArgs false
set_option maxRecDepth 10000
set_option maxHeartbeats 2000000
namespace Go.Proofs.K
open Go.Sl

def shaKV : List Value := shaK.map w32
abbrev HasParts (F : List HItem) : Prop := CellsAt F ⟨g_stamp_parts, 0, none⟩ shaKV

theorem rotate_left (s w : World) (x : UInt32) (n : Nat) (h1 : 1 ≤ n) (h2 : n ≤ 31) (F : List HItem) (hs : Sat s w F) :
    Calls P n_math_bits_RotateLeft32 #[w32 x, .int .i64 (-(n : Int))] w (Ret s (fun _ : Unit => w32 (rotr x n)) (fun _ => F) (fun _ => True)) := by
  have hu : UInt64.ofInt (-(n : Int)) &&& 31 = UInt64.ofNat (32 - n) := by
    apply UInt64.toNat_inj.1
    have e : (UInt64.ofInt (-(n : Int))).toNat = 18446744073709551616 - n := by simp [UInt64.ofInt, UInt64.toNat_ofNat']; omega
    rw [UInt64.toNat_and, e, UInt64.toNat_ofNat']
    show (18446744073709551616 - n) &&& (2 ^ 5 - 1) = _
    rw [Nat.and_two_pow_sub_one_eq_mod]; omega
  have hs2 : (32 : UInt64) - UInt64.ofNat (32 - n) = UInt64.ofNat n := by
    apply UInt64.toNat_inj.1
    rw [UInt64.toNat_sub, UInt64.toNat_ofNat', UInt64.toNat_ofNat']
    show (2 ^ 64 - (32 - n) % 2 ^ 64 + 32) % 2 ^ 64 = _
    omega
  have hn1 : (UInt64.ofNat (32 - n)).toNat = 32 - n := by rw [UInt64.toNat_ofNat']; omega
  have hn2 : (UInt64.ofNat n).toNat = n := by rw [UInt64.toNat_ofNat']; omega
  refine enter K.fn_math_bits_RotateLeft32 rfl K.nt_math_bits_RotateLeft32 rfl hs ?_
  clear hs w; intro a w h
  refine c_seq (c_region ?_)
  refine wv h (r_assign h rfl) rfl ?_
  clear h a w; intro a w h
  refine wnil (c_then ?_)
  refine c_seq (c_region ?_)
  refine wv h (r_move h rfl) rfl ?_
  clear h a w; intro a w h
  refine wv h (r_conv h rfl K.u_int K.u_uint (C.u64_i64) ) rfl ?_
  clear h a w; intro a w h
  refine wv h (r_bin h rfl rfl (B.and_u64 (y := 31))) rfl ?_
  clear h a w; intro a w h
  rw [hu] at h
  refine wv h (r_assign h rfl) rfl ?_
  clear h a w; intro a w h
  refine wnil (c_then ?_)
  refine c_seq (c_region ?_)
  refine wv h (r_move h rfl) rfl ?_
  clear h a w; intro a w h
  refine wv h (r_move h rfl) rfl ?_
  clear h a w; intro a w h
  refine wv h (r_bin h rfl rfl (B.shl_u32 (by omega))) rfl ?_
  clear h a w; intro a w h
  refine wv h (r_move h rfl) rfl ?_
  clear h a w; intro a w h
  refine wv h (r_move h rfl) rfl ?_
  clear h a w; intro a w h
  refine wv h (r_bin h rfl rfl (B.sub_u64 (x := 32))) rfl ?_
  clear h a w; intro a w h
  rw [hs2] at h
  refine wv h (r_bin h rfl rfl (B.shr_u32 (by omega))) rfl ?_
  clear h a w; intro a w h
  refine wv h (r_bin h rfl rfl (B.or_u32)) rfl ?_
  clear h a w; intro a w h
  rw [hn1, hn2, Int.toNat_natCast, Int.toNat_natCast, UInt32.or_comm] at h
  refine wv h (r_assign h rfl) rfl ?_
  clear h a w; intro a w h
  refine wnil (c_then ?_)
  refine c_ret ?_
  exact ret1 h rfl rfl ⟨(), rfl, h.2, trivial⟩
theorem ref_turn (s w : World) (x : UInt32) (n : Nat) (h1 : 1 ≤ n) (h2 : n ≤ 31) (F : List HItem) (hs : Sat s w F) :
    Calls P n_ref01_turn #[w32 x, .int .i64 (n : Int)] w (Ret s (fun _ : Unit => w32 (rotr x n)) (fun _ => F) (fun _ => True)) := by
  refine enter K.fn_ref01_turn rfl K.nt_ref01_turn rfl hs ?_
  clear hs w; intro a w h
  refine c_seq (c_region ?_)
  refine wv h (r_assign h rfl) rfl ?_
  clear h a w; intro a w h
  refine wnil (c_then ?_)
  refine c_seq (c_draw K.mixed (by kernel_rfl) h ?_)
  clear h a w; intro a hE
  refine qv hE (fun w hw => r_move ⟨hE, hw⟩ rfl) rfl ?_
  clear hE a; intro a hE
  refine qv hE (fun w hw => r_move ⟨hE, hw⟩ rfl) rfl ?_
  clear hE a; intro a hE
  refine qv hE (fun w hw => r_bin ⟨hE, hw⟩ rfl rfl (B.shr_u32 (by omega))) rfl ?_
  clear hE a; intro a hE
  refine qv hE (fun w hw => r_move ⟨hE, hw⟩ rfl) rfl ?_
  clear hE a; intro a hE
  refine qv hE (fun w hw => r_move ⟨hE, hw⟩ rfl) rfl ?_
  clear hE a; intro a hE
  refine qv hE (fun w hw => r_bin ⟨hE, hw⟩ rfl rfl (B.sub_i64 (by omega) (by omega))) rfl ?_
  clear hE a; intro a hE
  refine qv hE (fun w hw => r_bin ⟨hE, hw⟩ rfl rfl (B.shl_u32 (by omega))) rfl ?_
  clear hE a; intro a hE
  refine qv hE (fun w hw => r_bin ⟨hE, hw⟩ rfl rfl (B.or_u32)) rfl ?_
  clear hE a; intro a hE
  refine qv hE (fun w hw => r_assign ⟨hE, hw⟩ rfl) rfl ?_
  clear hE a; intro a hE
  refine qnil hE ?_
  clear hE a; intro a w h
  refine c_then ?_
  refine c_ret ?_
  refine ret1 h rfl rfl ⟨(), ?_, h.2, trivial⟩
  unfold rotr
  rw [show (32 - (n : Int)).toNat = 32 - n by omega, Int.toNat_natCast]

theorem getElem?_fill {W : List UInt32} {i j : Nat} {x : UInt32} (hj : j < i) (hx : W[j]? = some x) (m : Nat) : (W.take i ++ List.replicate m (0 : UInt32))[j]? = some x := by
  have hlt : j < W.length := (List.getElem?_eq_some_iff.1 hx).1
  rw [List.getElem?_append_left (by rw [List.length_take]; omega), List.getElem?_take, if_pos hj, hx]

theorem fill8 (x0 x1 x2 x3 x4 x5 x6 x7 : UInt32) : Instr.fill (fun i => some (i * 1, 1)) (Value.agg (Array.replicate 8 (.int .u32 0))).cells [(0, w32 x0), (1, w32 x1), (2, w32 x2), (3, w32 x3), (4, w32 x4), (5, w32 x5), (6, w32 x6), (7, w32 x7)] = some (arr32 [x0, x1, x2, x3, x4, x5, x6, x7]) :=
  fill_words x0 x1 x2 x3 x4 x5 x6 x7 (.int .u32 0) (.int .u32 0) (.int .u32 0) (.int .u32 0) (.int .u32 0) (.int .u32 0) (.int .u32 0) (.int .u32 0)

theorem stamp_block (s w : World) (hh : Sha8) (v : Value) (p : List UInt8) (hp : p.length = 64) (F : List HItem) (hT : HasParts F) (hv : ViewsB F v p) (hs : Sat s w F) :
    Calls P n_stamp_block #[.agg (arr32 hh.lst), v] w (Ret s (fun _ : Unit => .agg (arr32 (shaBlock hh p).lst)) (fun _ => F) (fun _ => True)) := by
  have hWl := shaW_len p
  have hWlow := shaW_low p
  have hWhigh := shaW_high p
  have hblk : shaBlock hh p = shaAdd hh (shaRounds hh (shaW p) 64) := rfl
  generalize shaW p = W at hWl hWlow hWhigh hblk
  refine enter K.fn_stamp_block rfl K.nt_stamp_block rfl hs ?_
  clear hs w; intro a w h
  refine c_seq (c_region ?_)
  refine wl rfl (op_box h rfl rfl ?_)
  clear h a w; intro b2 a w h
  refine wl rfl (op_alloc h K.z_A8_uint32 rfl ?_)
  clear h a w; intro b4 a w h
  refine wnil (c_then ?_)
  refine c_seq (c_region ?_)
  refine wl rfl (op_alloc h K.z_A64_uint32 rfl ?_)
  clear h a w; intro bw a w h
  have e0 : (Value.agg (Array.replicate 64 (Value.int .u32 0))).cells = arr32 (W.take 0 ++ List.replicate (64 - 0) 0) := by
    exact (arr32_zero 64).symm
  rw [e0] at h
  replace h : St 199 s a w _ (Blk bw (.cells (arr32 (W.take 0 ++ List.replicate (64 - 0) 0)) t_A64_uint32) :: Blk b4 (.cells (arr32 [0, 0, 0, 0, 0, 0, 0, 0]) t_A8_uint32) :: Blk b2 (.cells (arr32 hh.lst) t_A8_uint32) :: F) := h
  generalize hG : (Blk b4 (.cells (arr32 [0, 0, 0, 0, 0, 0, 0, 0]) t_A8_uint32) :: Blk b2 (.cells (arr32 hh.lst) t_A8_uint32) :: F) = G at h
  have hvG : ViewsB G v p := by rw [← hG]; exact (hv.cons _).cons _
  refine wnil (c_then ?_)
  refine c_seq ?_
  refine c_seq (c_region ?_)
  refine wv h (r_move h rfl) rfl ?_
  clear h a w; intro a w h
  refine wnil (c_then ?_)
  refine c_block ?_
  refine c_loop (X := Nat) (fun i => [(1, v), (2, .pointer (some ⟨b2, 0, none⟩)), (4, .pointer (some ⟨b4, 0, none⟩)), (5, .pointer (some ⟨bw, 0, none⟩)), (21, .int .i64 (i : Int))])
    (fun i => Blk bw (.cells (arr32 (W.take i ++ List.replicate (64 - i) 0)) t_A64_uint32) :: G) (fun i => i ≤ 16) (fun i => 16 - i) 0 (h.keep [1, 2, 4, 5, 21]) (by simp) ?_
  clear h a w; intro i a w hx h
  as_aux_lemma =>
   refine c_seq (c_region ?_)
   refine wv h (r_bin h rfl rfl (B.lss_int)) rfl ?_
   clear h a w; intro a w h
   refine wnil (c_then ?_)
   refine c_seq ?_
   refine c_condD h rfl (fun ht1 => ?_) (fun ht1 => ?_)
   ·
    obtain ⟨x0, hx0⟩ : ∃ b, p[4 * i]? = some b := ⟨p[4 * i]'(by omega), by simp⟩
    obtain ⟨x1, hx1⟩ : ∃ b, p[4 * i + 1]? = some b := ⟨p[4 * i + 1]'(by omega), by simp⟩
    obtain ⟨x2, hx2⟩ : ∃ b, p[4 * i + 2]? = some b := ⟨p[4 * i + 2]'(by omega), by simp⟩
    obtain ⟨x3, hx3⟩ : ∃ b, p[4 * i + 3]? = some b := ⟨p[4 * i + 3]'(by omega), by simp⟩
    obtain ⟨g0, o0, c0, hg0, hc0⟩ := ViewsB.cell hvG (h.2.drop 1) hx0
    obtain ⟨g1, o1, c1, hg1, hc1⟩ := ViewsB.cell hvG (h.2.drop 1) hx1
    obtain ⟨g2, o2, c2, hg2, hc2⟩ := ViewsB.cell hvG (h.2.drop 1) hx2
    obtain ⟨g3, o3, c3, hg3, hc3⟩ := ViewsB.cell hvG (h.2.drop 1) hx3
    have hWi := hWlow i (by omega)
    have hwd : shaWord p i = UInt32.ofNat (((x0.toNat * 256 + x1.toNat) * 256 + x2.toNat) * 256 + x3.toNat) := by
      simp [shaWord, List.getD_eq_getElem?_getD, hx0, hx1, hx2, hx3]
    rw [hwd] at hWi
    have hfl := arr_fill W 0 _ i hWi
    rw [hWl] at hfl
    refine c_skip ?_
    refine c_then ?_
    refine c_seq ?_
    refine c_block ?_
    refine c_seq (c_region ?_)
    refine wv h (r_move h rfl) rfl ?_
    clear h a w; intro a w h
    refine wv h (r_assign h rfl) rfl ?_
    clear h a w; intro a w h
    refine wnil (c_then ?_)
    refine c_held (G) 36 K.mixed rfl h ?_
    clear h a w; intro a w h
    refine h_take (listed' := #[true, false, false, false, false, false, false, false, false, false, false, false, false, false, false, false, false, false, false, false, false, false, false, false, false, false, false, false, false, false, false, false, false, false, false, false]) h 0 (by as_aux_lemma => kernel_rfl) rfl (by as_aux_lemma => kernel_rfl) (by as_aux_lemma => kernel_rfl) (by as_aux_lemma => kernel_rfl) (fun _ _ _ hh => hh) (by first | exact h.2 | exact h.2.drop 1 | exact h.2.drop 2 | exact h.2.drop 3 | exact h.2.drop 4 | exact h.2.drop 5 | exact h.2.drop 6) (fun w hw => r_move ⟨h.1, hw⟩ rfl) rfl ?_
    clear h a w; intro a w h
    refine h_take (listed' := #[true, true, false, false, false, false, false, false, false, false, false, false, false, false, false, false, false, false, false, false, false, false, false, false, false, false, false, false, false, false, false, false, false, false, false, false]) h 1 (by as_aux_lemma => kernel_rfl) rfl (by as_aux_lemma => kernel_rfl) (by as_aux_lemma => kernel_rfl) (by as_aux_lemma => kernel_rfl) (fun _ _ _ hh => hh) (by first | exact h.2 | exact h.2.drop 1 | exact h.2.drop 2 | exact h.2.drop 3 | exact h.2.drop 4 | exact h.2.drop 5 | exact h.2.drop 6) (fun w hw => r_move ⟨h.1, hw⟩ rfl) rfl ?_
    clear h a w; intro a w h
    refine h_take (listed' := #[true, true, true, false, false, false, false, false, false, false, false, false, false, false, false, false, false, false, false, false, false, false, false, false, false, false, false, false, false, false, false, false, false, false, false, false]) h 2 (by as_aux_lemma => kernel_rfl) rfl (by as_aux_lemma => kernel_rfl) (by as_aux_lemma => kernel_rfl) (by as_aux_lemma => kernel_rfl) (fun _ _ _ hh => hh) (by first | exact h.2 | exact h.2.drop 1 | exact h.2.drop 2 | exact h.2.drop 3 | exact h.2.drop 4 | exact h.2.drop 5 | exact h.2.drop 6) (fun w hw => r_move ⟨h.1, hw⟩ rfl) rfl ?_
    clear h a w; intro a w h
    refine h_take (listed' := #[true, true, true, true, false, false, false, false, false, false, false, false, false, false, false, false, false, false, false, false, false, false, false, false, false, false, false, false, false, false, false, false, false, false, false, false]) h 3 (by as_aux_lemma => kernel_rfl) rfl (by as_aux_lemma => kernel_rfl) (by as_aux_lemma => kernel_rfl) (by as_aux_lemma => kernel_rfl) (fun _ _ _ hh => hh) (by first | exact h.2 | exact h.2.drop 1 | exact h.2.drop 2 | exact h.2.drop 3 | exact h.2.drop 4 | exact h.2.drop 5 | exact h.2.drop 6) (fun w hw => r_bin ⟨h.1, hw⟩ rfl rfl (B.mul_i64 (by omega) (by omega))) rfl ?_
    clear h a w; intro a w h
    refine h_take (listed' := #[true, true, true, true, true, false, false, false, false, false, false, false, false, false, false, false, false, false, false, false, false, false, false, false, false, false, false, false, false, false, false, false, false, false, false, false]) h 4 (by as_aux_lemma => kernel_rfl) rfl (by as_aux_lemma => kernel_rfl) (by as_aux_lemma => kernel_rfl) (by as_aux_lemma => kernel_rfl) (fun _ _ _ hh => hh) (by first | exact h.2 | exact h.2.drop 1 | exact h.2.drop 2 | exact h.2.drop 3 | exact h.2.drop 4 | exact h.2.drop 5 | exact h.2.drop 6) (fun w hw => r_idx ⟨h.1, hw⟩ rfl rfl K.u_S_uint8 K.sz_uint8 hg0 (4 * i) (by omega) (by omega)) rfl ?_
    clear h a w; intro a w h
    refine h_take (listed' := #[true, true, true, true, true, true, false, false, false, false, false, false, false, false, false, false, false, false, false, false, false, false, false, false, false, false, false, false, false, false, false, false, false, false, false, false]) h 5 (by as_aux_lemma => kernel_rfl) rfl (by as_aux_lemma => kernel_rfl) (by as_aux_lemma => kernel_rfl) (by as_aux_lemma => kernel_rfl) (fun _ _ _ hh => hh) (by first | exact h.2 | exact h.2.drop 1 | exact h.2.drop 2 | exact h.2.drop 3 | exact h.2.drop 4 | exact h.2.drop 5 | exact h.2.drop 6) (fun w hw => r_loadC ⟨h.1, hw⟩ rfl K.u_uint8 rfl hc0 0 (.inl ⟨rfl, rfl⟩) rfl) rfl ?_
    clear h a w; intro a w h
    refine h_take (listed' := #[true, true, true, true, true, true, true, false, false, false, false, false, false, false, false, false, false, false, false, false, false, false, false, false, false, false, false, false, false, false, false, false, false, false, false, false]) h 6 (by as_aux_lemma => kernel_rfl) rfl (by as_aux_lemma => kernel_rfl) (by as_aux_lemma => kernel_rfl) (by as_aux_lemma => kernel_rfl) (fun _ _ _ hh => hh) (by first | exact h.2 | exact h.2.drop 1 | exact h.2.drop 2 | exact h.2.drop 3 | exact h.2.drop 4 | exact h.2.drop 5 | exact h.2.drop 6) (fun w hw => r_conv ⟨h.1, hw⟩ rfl K.u_uint8 K.u_uint32 (C.u32_u8) ) rfl ?_
    clear h a w; intro a w h
    refine h_take (listed' := #[true, true, true, true, true, true, true, true, false, false, false, false, false, false, false, false, false, false, false, false, false, false, false, false, false, false, false, false, false, false, false, false, false, false, false, false]) h 7 (by as_aux_lemma => kernel_rfl) rfl (by as_aux_lemma => kernel_rfl) (by as_aux_lemma => kernel_rfl) (by as_aux_lemma => kernel_rfl) (fun _ _ _ hh => hh) (by first | exact h.2 | exact h.2.drop 1 | exact h.2.drop 2 | exact h.2.drop 3 | exact h.2.drop 4 | exact h.2.drop 5 | exact h.2.drop 6) (fun w hw => r_bin ⟨h.1, hw⟩ rfl rfl (B.shl_u32 (by decide))) rfl ?_
    clear h a w; intro a w h
    refine h_take (listed' := #[true, true, true, true, true, true, true, true, true, false, false, false, false, false, false, false, false, false, false, false, false, false, false, false, false, false, false, false, false, false, false, false, false, false, false, false]) h 8 (by as_aux_lemma => kernel_rfl) rfl (by as_aux_lemma => kernel_rfl) (by as_aux_lemma => kernel_rfl) (by as_aux_lemma => kernel_rfl) (fun _ _ _ hh => hh) (by first | exact h.2 | exact h.2.drop 1 | exact h.2.drop 2 | exact h.2.drop 3 | exact h.2.drop 4 | exact h.2.drop 5 | exact h.2.drop 6) (fun w hw => r_move ⟨h.1, hw⟩ rfl) rfl ?_
    clear h a w; intro a w h
    refine h_take (listed' := #[true, true, true, true, true, true, true, true, true, true, false, false, false, false, false, false, false, false, false, false, false, false, false, false, false, false, false, false, false, false, false, false, false, false, false, false]) h 9 (by as_aux_lemma => kernel_rfl) rfl (by as_aux_lemma => kernel_rfl) (by as_aux_lemma => kernel_rfl) (by as_aux_lemma => kernel_rfl) (fun _ _ _ hh => hh) (by first | exact h.2 | exact h.2.drop 1 | exact h.2.drop 2 | exact h.2.drop 3 | exact h.2.drop 4 | exact h.2.drop 5 | exact h.2.drop 6) (fun w hw => r_move ⟨h.1, hw⟩ rfl) rfl ?_
    clear h a w; intro a w h
    refine h_take (listed' := #[true, true, true, true, true, true, true, true, true, true, true, false, false, false, false, false, false, false, false, false, false, false, false, false, false, false, false, false, false, false, false, false, false, false, false, false]) h 10 (by as_aux_lemma => kernel_rfl) rfl (by as_aux_lemma => kernel_rfl) (by as_aux_lemma => kernel_rfl) (by as_aux_lemma => kernel_rfl) (fun _ _ _ hh => hh) (by first | exact h.2 | exact h.2.drop 1 | exact h.2.drop 2 | exact h.2.drop 3 | exact h.2.drop 4 | exact h.2.drop 5 | exact h.2.drop 6) (fun w hw => r_bin ⟨h.1, hw⟩ rfl rfl (B.mul_i64 (by omega) (by omega))) rfl ?_
    clear h a w; intro a w h
    refine h_take (listed' := #[true, true, true, true, true, true, true, true, true, true, true, true, false, false, false, false, false, false, false, false, false, false, false, false, false, false, false, false, false, false, false, false, false, false, false, false]) h 11 (by as_aux_lemma => kernel_rfl) rfl (by as_aux_lemma => kernel_rfl) (by as_aux_lemma => kernel_rfl) (by as_aux_lemma => kernel_rfl) (fun _ _ _ hh => hh) (by first | exact h.2 | exact h.2.drop 1 | exact h.2.drop 2 | exact h.2.drop 3 | exact h.2.drop 4 | exact h.2.drop 5 | exact h.2.drop 6) (fun w hw => r_bin ⟨h.1, hw⟩ rfl rfl (B.add_i64 (by omega) (by omega))) rfl ?_
    clear h a w; intro a w h
    refine h_take (listed' := #[true, true, true, true, true, true, true, true, true, true, true, true, true, false, false, false, false, false, false, false, false, false, false, false, false, false, false, false, false, false, false, false, false, false, false, false]) h 12 (by as_aux_lemma => kernel_rfl) rfl (by as_aux_lemma => kernel_rfl) (by as_aux_lemma => kernel_rfl) (by as_aux_lemma => kernel_rfl) (fun _ _ _ hh => hh) (by first | exact h.2 | exact h.2.drop 1 | exact h.2.drop 2 | exact h.2.drop 3 | exact h.2.drop 4 | exact h.2.drop 5 | exact h.2.drop 6) (fun w hw => r_idx ⟨h.1, hw⟩ rfl rfl K.u_S_uint8 K.sz_uint8 hg1 (4 * i + 1) (by omega) (by omega)) rfl ?_
    clear h a w; intro a w h
    refine h_take (listed' := #[true, true, true, true, true, true, true, true, true, true, true, true, true, true, false, false, false, false, false, false, false, false, false, false, false, false, false, false, false, false, false, false, false, false, false, false]) h 13 (by as_aux_lemma => kernel_rfl) rfl (by as_aux_lemma => kernel_rfl) (by as_aux_lemma => kernel_rfl) (by as_aux_lemma => kernel_rfl) (fun _ _ _ hh => hh) (by first | exact h.2 | exact h.2.drop 1 | exact h.2.drop 2 | exact h.2.drop 3 | exact h.2.drop 4 | exact h.2.drop 5 | exact h.2.drop 6) (fun w hw => r_loadC ⟨h.1, hw⟩ rfl K.u_uint8 rfl hc1 0 (.inl ⟨rfl, rfl⟩) rfl) rfl ?_
    clear h a w; intro a w h
    refine h_take (listed' := #[true, true, true, true, true, true, true, true, true, true, true, true, true, true, true, false, false, false, false, false, false, false, false, false, false, false, false, false, false, false, false, false, false, false, false, false]) h 14 (by as_aux_lemma => kernel_rfl) rfl (by as_aux_lemma => kernel_rfl) (by as_aux_lemma => kernel_rfl) (by as_aux_lemma => kernel_rfl) (fun _ _ _ hh => hh) (by first | exact h.2 | exact h.2.drop 1 | exact h.2.drop 2 | exact h.2.drop 3 | exact h.2.drop 4 | exact h.2.drop 5 | exact h.2.drop 6) (fun w hw => r_conv ⟨h.1, hw⟩ rfl K.u_uint8 K.u_uint32 (C.u32_u8) ) rfl ?_
    clear h a w; intro a w h
    refine h_take (listed' := #[true, true, true, true, true, true, true, true, true, true, true, true, true, true, true, true, false, false, false, false, false, false, false, false, false, false, false, false, false, false, false, false, false, false, false, false]) h 15 (by as_aux_lemma => kernel_rfl) rfl (by as_aux_lemma => kernel_rfl) (by as_aux_lemma => kernel_rfl) (by as_aux_lemma => kernel_rfl) (fun _ _ _ hh => hh) (by first | exact h.2 | exact h.2.drop 1 | exact h.2.drop 2 | exact h.2.drop 3 | exact h.2.drop 4 | exact h.2.drop 5 | exact h.2.drop 6) (fun w hw => r_bin ⟨h.1, hw⟩ rfl rfl (B.shl_u32 (by decide))) rfl ?_
    clear h a w; intro a w h
    refine h_take (listed' := #[true, true, true, true, true, true, true, true, true, true, true, true, true, true, true, true, true, false, false, false, false, false, false, false, false, false, false, false, false, false, false, false, false, false, false, false]) h 16 (by as_aux_lemma => kernel_rfl) rfl (by as_aux_lemma => kernel_rfl) (by as_aux_lemma => kernel_rfl) (by as_aux_lemma => kernel_rfl) (fun _ _ _ hh => hh) (by first | exact h.2 | exact h.2.drop 1 | exact h.2.drop 2 | exact h.2.drop 3 | exact h.2.drop 4 | exact h.2.drop 5 | exact h.2.drop 6) (fun w hw => r_bin ⟨h.1, hw⟩ rfl rfl (B.or_u32)) rfl ?_
    clear h a w; intro a w h
    refine h_take (listed' := #[true, true, true, true, true, true, true, true, true, true, true, true, true, true, true, true, true, true, false, false, false, false, false, false, false, false, false, false, false, false, false, false, false, false, false, false]) h 17 (by as_aux_lemma => kernel_rfl) rfl (by as_aux_lemma => kernel_rfl) (by as_aux_lemma => kernel_rfl) (by as_aux_lemma => kernel_rfl) (fun _ _ _ hh => hh) (by first | exact h.2 | exact h.2.drop 1 | exact h.2.drop 2 | exact h.2.drop 3 | exact h.2.drop 4 | exact h.2.drop 5 | exact h.2.drop 6) (fun w hw => r_move ⟨h.1, hw⟩ rfl) rfl ?_
    clear h a w; intro a w h
    refine h_take (listed' := #[true, true, true, true, true, true, true, true, true, true, true, true, true, true, true, true, true, true, true, false, false, false, false, false, false, false, false, false, false, false, false, false, false, false, false, false]) h 18 (by as_aux_lemma => kernel_rfl) rfl (by as_aux_lemma => kernel_rfl) (by as_aux_lemma => kernel_rfl) (by as_aux_lemma => kernel_rfl) (fun _ _ _ hh => hh) (by first | exact h.2 | exact h.2.drop 1 | exact h.2.drop 2 | exact h.2.drop 3 | exact h.2.drop 4 | exact h.2.drop 5 | exact h.2.drop 6) (fun w hw => r_move ⟨h.1, hw⟩ rfl) rfl ?_
    clear h a w; intro a w h
    refine h_take (listed' := #[true, true, true, true, true, true, true, true, true, true, true, true, true, true, true, true, true, true, true, true, false, false, false, false, false, false, false, false, false, false, false, false, false, false, false, false]) h 19 (by as_aux_lemma => kernel_rfl) rfl (by as_aux_lemma => kernel_rfl) (by as_aux_lemma => kernel_rfl) (by as_aux_lemma => kernel_rfl) (fun _ _ _ hh => hh) (by first | exact h.2 | exact h.2.drop 1 | exact h.2.drop 2 | exact h.2.drop 3 | exact h.2.drop 4 | exact h.2.drop 5 | exact h.2.drop 6) (fun w hw => r_bin ⟨h.1, hw⟩ rfl rfl (B.mul_i64 (by omega) (by omega))) rfl ?_
    clear h a w; intro a w h
    refine h_take (listed' := #[true, true, true, true, true, true, true, true, true, true, true, true, true, true, true, true, true, true, true, true, true, false, false, false, false, false, false, false, false, false, false, false, false, false, false, false]) h 20 (by as_aux_lemma => kernel_rfl) rfl (by as_aux_lemma => kernel_rfl) (by as_aux_lemma => kernel_rfl) (by as_aux_lemma => kernel_rfl) (fun _ _ _ hh => hh) (by first | exact h.2 | exact h.2.drop 1 | exact h.2.drop 2 | exact h.2.drop 3 | exact h.2.drop 4 | exact h.2.drop 5 | exact h.2.drop 6) (fun w hw => r_bin ⟨h.1, hw⟩ rfl rfl (B.add_i64 (by omega) (by omega))) rfl ?_
    clear h a w; intro a w h
    refine h_take (listed' := #[true, true, true, true, true, true, true, true, true, true, true, true, true, true, true, true, true, true, true, true, true, true, false, false, false, false, false, false, false, false, false, false, false, false, false, false]) h 21 (by as_aux_lemma => kernel_rfl) rfl (by as_aux_lemma => kernel_rfl) (by as_aux_lemma => kernel_rfl) (by as_aux_lemma => kernel_rfl) (fun _ _ _ hh => hh) (by first | exact h.2 | exact h.2.drop 1 | exact h.2.drop 2 | exact h.2.drop 3 | exact h.2.drop 4 | exact h.2.drop 5 | exact h.2.drop 6) (fun w hw => r_idx ⟨h.1, hw⟩ rfl rfl K.u_S_uint8 K.sz_uint8 hg2 (4 * i + 2) (by omega) (by omega)) rfl ?_
    clear h a w; intro a w h
    refine h_take (listed' := #[true, true, true, true, true, true, true, true, true, true, true, true, true, true, true, true, true, true, true, true, true, true, true, false, false, false, false, false, false, false, false, false, false, false, false, false]) h 22 (by as_aux_lemma => kernel_rfl) rfl (by as_aux_lemma => kernel_rfl) (by as_aux_lemma => kernel_rfl) (by as_aux_lemma => kernel_rfl) (fun _ _ _ hh => hh) (by first | exact h.2 | exact h.2.drop 1 | exact h.2.drop 2 | exact h.2.drop 3 | exact h.2.drop 4 | exact h.2.drop 5 | exact h.2.drop 6) (fun w hw => r_loadC ⟨h.1, hw⟩ rfl K.u_uint8 rfl hc2 0 (.inl ⟨rfl, rfl⟩) rfl) rfl ?_
    clear h a w; intro a w h
    refine h_take (listed' := #[true, true, true, true, true, true, true, true, true, true, true, true, true, true, true, true, true, true, true, true, true, true, true, true, false, false, false, false, false, false, false, false, false, false, false, false]) h 23 (by as_aux_lemma => kernel_rfl) rfl (by as_aux_lemma => kernel_rfl) (by as_aux_lemma => kernel_rfl) (by as_aux_lemma => kernel_rfl) (fun _ _ _ hh => hh) (by first | exact h.2 | exact h.2.drop 1 | exact h.2.drop 2 | exact h.2.drop 3 | exact h.2.drop 4 | exact h.2.drop 5 | exact h.2.drop 6) (fun w hw => r_conv ⟨h.1, hw⟩ rfl K.u_uint8 K.u_uint32 (C.u32_u8) ) rfl ?_
    clear h a w; intro a w h
    refine h_take (listed' := #[true, true, true, true, true, true, true, true, true, true, true, true, true, true, true, true, true, true, true, true, true, true, true, true, true, false, false, false, false, false, false, false, false, false, false, false]) h 24 (by as_aux_lemma => kernel_rfl) rfl (by as_aux_lemma => kernel_rfl) (by as_aux_lemma => kernel_rfl) (by as_aux_lemma => kernel_rfl) (fun _ _ _ hh => hh) (by first | exact h.2 | exact h.2.drop 1 | exact h.2.drop 2 | exact h.2.drop 3 | exact h.2.drop 4 | exact h.2.drop 5 | exact h.2.drop 6) (fun w hw => r_bin ⟨h.1, hw⟩ rfl rfl (B.shl_u32 (by decide))) rfl ?_
    clear h a w; intro a w h
    refine h_take (listed' := #[true, true, true, true, true, true, true, true, true, true, true, true, true, true, true, true, true, true, true, true, true, true, true, true, true, true, false, false, false, false, false, false, false, false, false, false]) h 25 (by as_aux_lemma => kernel_rfl) rfl (by as_aux_lemma => kernel_rfl) (by as_aux_lemma => kernel_rfl) (by as_aux_lemma => kernel_rfl) (fun _ _ _ hh => hh) (by first | exact h.2 | exact h.2.drop 1 | exact h.2.drop 2 | exact h.2.drop 3 | exact h.2.drop 4 | exact h.2.drop 5 | exact h.2.drop 6) (fun w hw => r_bin ⟨h.1, hw⟩ rfl rfl (B.or_u32)) rfl ?_
    clear h a w; intro a w h
    refine h_take (listed' := #[true, true, true, true, true, true, true, true, true, true, true, true, true, true, true, true, true, true, true, true, true, true, true, true, true, true, true, false, false, false, false, false, false, false, false, false]) h 26 (by as_aux_lemma => kernel_rfl) rfl (by as_aux_lemma => kernel_rfl) (by as_aux_lemma => kernel_rfl) (by as_aux_lemma => kernel_rfl) (fun _ _ _ hh => hh) (by first | exact h.2 | exact h.2.drop 1 | exact h.2.drop 2 | exact h.2.drop 3 | exact h.2.drop 4 | exact h.2.drop 5 | exact h.2.drop 6) (fun w hw => r_move ⟨h.1, hw⟩ rfl) rfl ?_
    clear h a w; intro a w h
    refine h_take (listed' := #[true, true, true, true, true, true, true, true, true, true, true, true, true, true, true, true, true, true, true, true, true, true, true, true, true, true, true, true, false, false, false, false, false, false, false, false]) h 27 (by as_aux_lemma => kernel_rfl) rfl (by as_aux_lemma => kernel_rfl) (by as_aux_lemma => kernel_rfl) (by as_aux_lemma => kernel_rfl) (fun _ _ _ hh => hh) (by first | exact h.2 | exact h.2.drop 1 | exact h.2.drop 2 | exact h.2.drop 3 | exact h.2.drop 4 | exact h.2.drop 5 | exact h.2.drop 6) (fun w hw => r_move ⟨h.1, hw⟩ rfl) rfl ?_
    clear h a w; intro a w h
    refine h_take (listed' := #[true, true, true, true, true, true, true, true, true, true, true, true, true, true, true, true, true, true, true, true, true, true, true, true, true, true, true, true, true, false, false, false, false, false, false, false]) h 28 (by as_aux_lemma => kernel_rfl) rfl (by as_aux_lemma => kernel_rfl) (by as_aux_lemma => kernel_rfl) (by as_aux_lemma => kernel_rfl) (fun _ _ _ hh => hh) (by first | exact h.2 | exact h.2.drop 1 | exact h.2.drop 2 | exact h.2.drop 3 | exact h.2.drop 4 | exact h.2.drop 5 | exact h.2.drop 6) (fun w hw => r_bin ⟨h.1, hw⟩ rfl rfl (B.mul_i64 (by omega) (by omega))) rfl ?_
    clear h a w; intro a w h
    refine h_take (listed' := #[true, true, true, true, true, true, true, true, true, true, true, true, true, true, true, true, true, true, true, true, true, true, true, true, true, true, true, true, true, true, false, false, false, false, false, false]) h 29 (by as_aux_lemma => kernel_rfl) rfl (by as_aux_lemma => kernel_rfl) (by as_aux_lemma => kernel_rfl) (by as_aux_lemma => kernel_rfl) (fun _ _ _ hh => hh) (by first | exact h.2 | exact h.2.drop 1 | exact h.2.drop 2 | exact h.2.drop 3 | exact h.2.drop 4 | exact h.2.drop 5 | exact h.2.drop 6) (fun w hw => r_bin ⟨h.1, hw⟩ rfl rfl (B.add_i64 (by omega) (by omega))) rfl ?_
    clear h a w; intro a w h
    refine h_take (listed' := #[true, true, true, true, true, true, true, true, true, true, true, true, true, true, true, true, true, true, true, true, true, true, true, true, true, true, true, true, true, true, true, false, false, false, false, false]) h 30 (by as_aux_lemma => kernel_rfl) rfl (by as_aux_lemma => kernel_rfl) (by as_aux_lemma => kernel_rfl) (by as_aux_lemma => kernel_rfl) (fun _ _ _ hh => hh) (by first | exact h.2 | exact h.2.drop 1 | exact h.2.drop 2 | exact h.2.drop 3 | exact h.2.drop 4 | exact h.2.drop 5 | exact h.2.drop 6) (fun w hw => r_idx ⟨h.1, hw⟩ rfl rfl K.u_S_uint8 K.sz_uint8 hg3 (4 * i + 3) (by omega) (by omega)) rfl ?_
    clear h a w; intro a w h
    refine h_take (listed' := #[true, true, true, true, true, true, true, true, true, true, true, true, true, true, true, true, true, true, true, true, true, true, true, true, true, true, true, true, true, true, true, true, false, false, false, false]) h 31 (by as_aux_lemma => kernel_rfl) rfl (by as_aux_lemma => kernel_rfl) (by as_aux_lemma => kernel_rfl) (by as_aux_lemma => kernel_rfl) (fun _ _ _ hh => hh) (by first | exact h.2 | exact h.2.drop 1 | exact h.2.drop 2 | exact h.2.drop 3 | exact h.2.drop 4 | exact h.2.drop 5 | exact h.2.drop 6) (fun w hw => r_loadC ⟨h.1, hw⟩ rfl K.u_uint8 rfl hc3 0 (.inl ⟨rfl, rfl⟩) rfl) rfl ?_
    clear h a w; intro a w h
    refine h_take (listed' := #[true, true, true, true, true, true, true, true, true, true, true, true, true, true, true, true, true, true, true, true, true, true, true, true, true, true, true, true, true, true, true, true, true, false, false, false]) h 32 (by as_aux_lemma => kernel_rfl) rfl (by as_aux_lemma => kernel_rfl) (by as_aux_lemma => kernel_rfl) (by as_aux_lemma => kernel_rfl) (fun _ _ _ hh => hh) (by first | exact h.2 | exact h.2.drop 1 | exact h.2.drop 2 | exact h.2.drop 3 | exact h.2.drop 4 | exact h.2.drop 5 | exact h.2.drop 6) (fun w hw => r_conv ⟨h.1, hw⟩ rfl K.u_uint8 K.u_uint32 (C.u32_u8) ) rfl ?_
    clear h a w; intro a w h
    refine h_take (listed' := #[true, true, true, true, true, true, true, true, true, true, true, true, true, true, true, true, true, true, true, true, true, true, true, true, true, true, true, true, true, true, true, true, true, true, false, false]) h 33 (by as_aux_lemma => kernel_rfl) rfl (by as_aux_lemma => kernel_rfl) (by as_aux_lemma => kernel_rfl) (by as_aux_lemma => kernel_rfl) (fun _ _ _ hh => hh) (by first | exact h.2 | exact h.2.drop 1 | exact h.2.drop 2 | exact h.2.drop 3 | exact h.2.drop 4 | exact h.2.drop 5 | exact h.2.drop 6) (fun w hw => r_bin ⟨h.1, hw⟩ rfl rfl (B.or_u32)) rfl ?_
    clear h a w; intro a w h
    rw [word_shl] at h
    refine h_take (listed' := #[true, true, true, true, true, true, true, true, true, true, true, true, true, true, true, true, true, true, true, true, true, true, true, true, true, true, true, true, true, true, true, true, true, true, true, false]) h 34 (by as_aux_lemma => kernel_rfl) rfl (by as_aux_lemma => kernel_rfl) (by as_aux_lemma => kernel_rfl) (by as_aux_lemma => kernel_rfl) (fun _ _ _ hh => hh) (by first | exact h.2 | exact h.2.drop 1 | exact h.2.drop 2 | exact h.2.drop 3 | exact h.2.drop 4 | exact h.2.drop 5 | exact h.2.drop 6) (fun w hw => r_indexAddrA ⟨h.1, hw⟩ rfl rfl K.u_A64_uint32 K.sz_uint32 i rfl (by omega)) rfl ?_
    clear h a w; intro a w h
    refine h_only (listed' := #[true, true, true, true, true, true, true, true, true, true, true, true, true, true, true, true, true, true, true, true, true, true, true, true, true, true, true, true, true, true, true, true, true, true, true, true]) 35 (by as_aux_lemma => kernel_rfl) rfl rfl (by as_aux_lemma => kernel_rfl) ?_
    refine op_store32 h rfl rfl K.sz_uint32 0 rfl (by simp; omega) ?_
    clear h a w; intro a w h
    simp only [List.set_cons_zero] at h
    rw [hfl] at h
    refine ⟨(by first | exact h.2 | exact h.2.drop 1 | exact h.2.drop 2 | exact h.2.drop 3 | exact h.2.drop 4 | exact h.2.drop 5 | exact h.2.drop 6), ?_⟩
    refine h_done (by kernel_rfl) ?_
    refine b_normal ?_
    refine c_then ?_
    refine c_region ?_
    refine wv h (r_bin h rfl rfl (B.add_i64 (by omega) (by omega))) rfl ?_
    clear h a w; intro a w h
    refine wv h (r_move h rfl) rfl ?_
    clear h a w; intro a w h
    refine wnil ?_
    refine ⟨i + 1, h.keep [1, 2, 4, 5, 21], ?_, ?_⟩
    · show i + 1 ≤ 16; omega
    · show 16 - (i + 1) < 16 - i; omega
   ·
    have hi16 : i = 16 := by omega
    subst hi16
    refine c_exit ?_
    refine e_then ?_
    refine e_then ?_
    refine e_here ?_
    refine c_then ?_
    refine c_seq ?_
    refine c_seq (c_region ?_)
    refine wv h (r_assign h rfl) rfl ?_
    clear h a w; intro a w h
    refine wnil (c_then ?_)
    refine c_block ?_
    refine c_loop (X := Nat) (fun i => [(2, .pointer (some ⟨b2, 0, none⟩)), (4, .pointer (some ⟨b4, 0, none⟩)), (5, .pointer (some ⟨bw, 0, none⟩)), (7, .int .i64 (i : Int))])
      (fun i => Blk bw (.cells (arr32 (W.take i ++ List.replicate (64 - i) 0)) t_A64_uint32) :: G) (fun i => 16 ≤ i ∧ i ≤ 64) (fun i => 64 - i) 16 (h.keep [2, 4, 5, 7]) (by simp) ?_
    clear h a w; intro i a w hx h
    as_aux_lemma =>
     refine c_seq ?_
     refine c_seq (c_region ?_)
     refine wv h (r_move h rfl) rfl ?_
     clear h a w; intro a w h
     refine wv h (r_bin h rfl rfl (B.lss_int)) rfl ?_
     clear h a w; intro a w h
     refine wnil (c_then ?_)
     refine c_condD h rfl (fun ht2 => ?_) (fun ht2 => ?_)
     ·
      obtain ⟨y0, hy0⟩ : ∃ b, W[i - 16]? = some b := ⟨W[i - 16]'(by omega), by simp⟩
      obtain ⟨y1, hy1⟩ : ∃ b, W[i - 15]? = some b := ⟨W[i - 15]'(by omega), by simp⟩
      obtain ⟨y2, hy2⟩ : ∃ b, W[i - 7]? = some b := ⟨W[i - 7]'(by omega), by simp⟩
      obtain ⟨y3, hy3⟩ : ∃ b, W[i - 2]? = some b := ⟨W[i - 2]'(by omega), by simp⟩
      have hWi := hWhigh i hx.1 (by omega)
      rw [shaNext_at hx.1 (by omega) hy0 hy1 hy2 hy3] at hWi
      have hfl := arr_fill W 0 _ i hWi
      rw [hWl] at hfl
      have hcp : CellsAt (Pre32 bw (W.take i) :: G) ⟨bw, 0, none⟩ ((W.take i).map w32) := CellsAt.pre32 0 rfl
      have hg : ∀ j x, j < i → W[j]? = some x → ((W.take i).map w32)[j]? = some (w32 x) := by
        intro j x hj hx; rw [List.getElem?_map, List.getElem?_take, if_pos hj, hx]; rfl
      have hpre : ∀ (w : World), Sat s w (Blk bw (.cells (arr32 (W.take i ++ List.replicate (64 - i) 0)) t_A64_uint32) :: G) → Sat s w (Pre32 bw (W.take i) :: G) := fun w hs =>
        Sat.pre32 hs (fun j u hj => by
          have hlt : j < (W.take i).length := (List.getElem?_eq_some_iff.1 hj).1
          rw [List.getElem?_append_left hlt]; exact hj)
      have hpost : ∀ (w : World), Sat s w (Blk bw (.cells (arr32 (W.take (i + 1) ++ List.replicate (64 - (i + 1)) 0)) t_A64_uint32) :: G) → Sat s w (Pre32 bw (W.take i) :: G) := fun w hs =>
        Sat.pre32 hs (fun j u hj => by
          rw [List.getElem?_take] at hj
          split at hj
          · rename_i hji; exact getElem?_fill (by omega) hj _
          · cases hj)
      refine c_skip ?_
      refine c_then ?_
      refine c_seq ?_
      refine c_block ?_
      refine c_seq (c_draw K.mixed (by kernel_rfl) h ?_)
      clear h a w; intro a hE
      refine qv hE (fun w hw => r_move ⟨hE, hw⟩ rfl) rfl ?_
      clear hE a; intro a hE
      refine qv hE (fun w hw => r_bin ⟨hE, hw⟩ rfl rfl (B.sub_i64 (by omega) (by omega))) rfl ?_
      clear hE a; intro a hE
      refine qv hE (fun w hw => r_indexAddrA ⟨hE, hw⟩ rfl rfl K.u_A64_uint32 K.sz_uint32 (i - 15) (by omega) (by omega)) rfl ?_
      clear hE a; intro a hE
      refine qv hE (fun w hw => r_load32 ⟨hE, hw⟩ rfl K.u_uint32 rfl 0 rfl (getElem?_fill (by omega) hy1 _)) rfl ?_
      clear hE a; intro a hE
      refine qv hE (fun w hw => r_move ⟨hE, hw⟩ rfl) rfl ?_
      clear hE a; intro a hE
      refine qv hE (fun w hw => r_bin ⟨hE, hw⟩ rfl rfl (B.sub_i64 (by omega) (by omega))) rfl ?_
      clear hE a; intro a hE
      refine qv hE (fun w hw => r_indexAddrA ⟨hE, hw⟩ rfl rfl K.u_A64_uint32 K.sz_uint32 (i - 2) (by omega) (by omega)) rfl ?_
      clear hE a; intro a hE
      refine qv hE (fun w hw => r_load32 ⟨hE, hw⟩ rfl K.u_uint32 rfl 0 rfl (getElem?_fill (by omega) hy3 _)) rfl ?_
      clear hE a; intro a hE
      refine qv hE (fun w hw => r_assign ⟨hE, hw⟩ rfl) rfl ?_
      clear hE a; intro a hE
      refine qv hE (fun w hw => r_assign ⟨hE, hw⟩ rfl) rfl ?_
      clear hE a; intro a hE
      refine qnil hE ?_
      clear hE a; intro a w h
      refine c_then ?_
      refine c_seq (c_region ?_)
      refine wv h (r_move h rfl) rfl ?_
      clear h a w; intro a w h
      refine wl rfl (op_call h rfl K.go_math_bits_RotateLeft32 (rotate_left s _ y1 7 (by omega) (by omega) _ h.2) rfl ?_)
      clear h a w; intro x a w hx h
      refine wv h (r_move h rfl) rfl ?_
      clear h a w; intro a w h
      refine wl rfl (op_call h rfl K.go_math_bits_RotateLeft32 (rotate_left s _ y1 18 (by omega) (by omega) _ h.2) rfl ?_)
      clear h a w; intro x a w hx h
      refine wv h (r_bin h rfl rfl (B.xor_u32)) rfl ?_
      clear h a w; intro a w h
      refine wv h (r_move h rfl) rfl ?_
      clear h a w; intro a w h
      refine wv h (r_bin h rfl rfl (B.shr_u32 (by decide))) rfl ?_
      clear h a w; intro a w h
      refine wv h (r_bin h rfl rfl (B.xor_u32)) rfl ?_
      clear h a w; intro a w h
      rw [show rotr y1 7 ^^^ rotr y1 18 ^^^ UInt32.ofNat (y1.toNat / 2 ^ (3 : Int).toNat) = shaS0 y1 from rfl] at h
      refine wv h (r_assign h rfl) rfl ?_
      clear h a w; intro a w h
      refine wnil (c_then ?_)
      refine c_seq (c_region ?_)
      refine wv h (r_move h rfl) rfl ?_
      clear h a w; intro a w h
      refine wl rfl (op_call h rfl K.go_math_bits_RotateLeft32 (rotate_left s _ y3 17 (by omega) (by omega) _ h.2) rfl ?_)
      clear h a w; intro x a w hx h
      refine wv h (r_move h rfl) rfl ?_
      clear h a w; intro a w h
      refine wl rfl (op_call h rfl K.go_math_bits_RotateLeft32 (rotate_left s _ y3 19 (by omega) (by omega) _ h.2) rfl ?_)
      clear h a w; intro x a w hx h
      refine wv h (r_bin h rfl rfl (B.xor_u32)) rfl ?_
      clear h a w; intro a w h
      refine wv h (r_move h rfl) rfl ?_
      clear h a w; intro a w h
      refine wv h (r_bin h rfl rfl (B.shr_u32 (by decide))) rfl ?_
      clear h a w; intro a w h
      refine wv h (r_bin h rfl rfl (B.xor_u32)) rfl ?_
      clear h a w; intro a w h
      rw [show rotr y3 17 ^^^ rotr y3 19 ^^^ UInt32.ofNat (y3.toNat / 2 ^ (10 : Int).toNat) = shaS1 y3 from rfl] at h
      refine wv h (r_assign h rfl) rfl ?_
      clear h a w; intro a w h
      refine wnil (c_then ?_)
      refine c_held ((Pre32 bw (W.take i) :: G)) 16 K.mixed rfl h ?_
      clear h a w; intro a w h
      refine h_take (listed' := #[true, false, false, false, false, false, false, false, false, false, false, false, false, false, false, false]) h 0 (by as_aux_lemma => kernel_rfl) rfl (by as_aux_lemma => kernel_rfl) (by as_aux_lemma => kernel_rfl) (by as_aux_lemma => kernel_rfl) (fun _ _ _ hh => hh) (by first | exact hpre _ h.2 | exact hpost _ h.2 | exact h.2 | exact h.2.drop 1 | exact h.2.drop 2 | exact h.2.drop 3 | exact h.2.drop 4 | exact h.2.drop 5 | exact h.2.drop 6) (fun w hw => r_move ⟨h.1, hw⟩ rfl) rfl ?_
      clear h a w; intro a w h
      refine h_take (listed' := #[true, true, false, false, false, false, false, false, false, false, false, false, false, false, false, false]) h 1 (by as_aux_lemma => kernel_rfl) rfl (by as_aux_lemma => kernel_rfl) (by as_aux_lemma => kernel_rfl) (by as_aux_lemma => kernel_rfl) (fun _ _ _ hh => hh) (by first | exact hpre _ h.2 | exact hpost _ h.2 | exact h.2 | exact h.2.drop 1 | exact h.2.drop 2 | exact h.2.drop 3 | exact h.2.drop 4 | exact h.2.drop 5 | exact h.2.drop 6) (fun w hw => r_move ⟨h.1, hw⟩ rfl) rfl ?_
      clear h a w; intro a w h
      refine h_take (listed' := #[true, true, true, false, false, false, false, false, false, false, false, false, false, false, false, false]) h 2 (by as_aux_lemma => kernel_rfl) rfl (by as_aux_lemma => kernel_rfl) (by as_aux_lemma => kernel_rfl) (by as_aux_lemma => kernel_rfl) (fun _ _ _ hh => hh) (by first | exact hpre _ h.2 | exact hpost _ h.2 | exact h.2 | exact h.2.drop 1 | exact h.2.drop 2 | exact h.2.drop 3 | exact h.2.drop 4 | exact h.2.drop 5 | exact h.2.drop 6) (fun w hw => r_bin ⟨h.1, hw⟩ rfl rfl (B.sub_i64 (by omega) (by omega))) rfl ?_
      clear h a w; intro a w h
      refine h_take (listed' := #[true, true, true, true, false, false, false, false, false, false, false, false, false, false, false, false]) h 3 (by as_aux_lemma => kernel_rfl) rfl (by as_aux_lemma => kernel_rfl) (by as_aux_lemma => kernel_rfl) (by as_aux_lemma => kernel_rfl) (fun _ _ _ hh => hh) (by first | exact hpre _ h.2 | exact hpost _ h.2 | exact h.2 | exact h.2.drop 1 | exact h.2.drop 2 | exact h.2.drop 3 | exact h.2.drop 4 | exact h.2.drop 5 | exact h.2.drop 6) (fun w hw => r_indexAddrA ⟨h.1, hw⟩ rfl rfl K.u_A64_uint32 K.sz_uint32 (i - 16) (by omega) (by omega)) rfl ?_
      clear h a w; intro a w h
      refine h_take (listed' := #[true, true, true, true, true, false, false, false, false, false, false, false, false, false, false, false]) h 4 (by as_aux_lemma => kernel_rfl) rfl (by as_aux_lemma => kernel_rfl) (by as_aux_lemma => kernel_rfl) (by as_aux_lemma => kernel_rfl) (fun _ _ _ hh => hh) (by first | exact hpre _ h.2 | exact hpost _ h.2 | exact h.2 | exact h.2.drop 1 | exact h.2.drop 2 | exact h.2.drop 3 | exact h.2.drop 4 | exact h.2.drop 5 | exact h.2.drop 6) (fun w hw => r_loadG ⟨h.1, hw⟩ rfl K.u_uint32 rfl hcp (i - 16) (by omega) (hg _ _ (by omega) hy0)) rfl ?_
      clear h a w; intro a w h
      refine h_take (listed' := #[true, true, true, true, true, true, false, false, false, false, false, false, false, false, false, false]) h 5 (by as_aux_lemma => kernel_rfl) rfl (by as_aux_lemma => kernel_rfl) (by as_aux_lemma => kernel_rfl) (by as_aux_lemma => kernel_rfl) (fun _ _ _ hh => hh) (by first | exact hpre _ h.2 | exact hpost _ h.2 | exact h.2 | exact h.2.drop 1 | exact h.2.drop 2 | exact h.2.drop 3 | exact h.2.drop 4 | exact h.2.drop 5 | exact h.2.drop 6) (fun w hw => r_move ⟨h.1, hw⟩ rfl) rfl ?_
      clear h a w; intro a w h
      refine h_take (listed' := #[true, true, true, true, true, true, true, false, false, false, false, false, false, false, false, false]) h 6 (by as_aux_lemma => kernel_rfl) rfl (by as_aux_lemma => kernel_rfl) (by as_aux_lemma => kernel_rfl) (by as_aux_lemma => kernel_rfl) (fun _ _ _ hh => hh) (by first | exact hpre _ h.2 | exact hpost _ h.2 | exact h.2 | exact h.2.drop 1 | exact h.2.drop 2 | exact h.2.drop 3 | exact h.2.drop 4 | exact h.2.drop 5 | exact h.2.drop 6) (fun w hw => r_bin ⟨h.1, hw⟩ rfl rfl (B.add_u32)) rfl ?_
      clear h a w; intro a w h
      refine h_take (listed' := #[true, true, true, true, true, true, true, true, false, false, false, false, false, false, false, false]) h 7 (by as_aux_lemma => kernel_rfl) rfl (by as_aux_lemma => kernel_rfl) (by as_aux_lemma => kernel_rfl) (by as_aux_lemma => kernel_rfl) (fun _ _ _ hh => hh) (by first | exact hpre _ h.2 | exact hpost _ h.2 | exact h.2 | exact h.2.drop 1 | exact h.2.drop 2 | exact h.2.drop 3 | exact h.2.drop 4 | exact h.2.drop 5 | exact h.2.drop 6) (fun w hw => r_move ⟨h.1, hw⟩ rfl) rfl ?_
      clear h a w; intro a w h
      refine h_take (listed' := #[true, true, true, true, true, true, true, true, true, false, false, false, false, false, false, false]) h 8 (by as_aux_lemma => kernel_rfl) rfl (by as_aux_lemma => kernel_rfl) (by as_aux_lemma => kernel_rfl) (by as_aux_lemma => kernel_rfl) (fun _ _ _ hh => hh) (by first | exact hpre _ h.2 | exact hpost _ h.2 | exact h.2 | exact h.2.drop 1 | exact h.2.drop 2 | exact h.2.drop 3 | exact h.2.drop 4 | exact h.2.drop 5 | exact h.2.drop 6) (fun w hw => r_bin ⟨h.1, hw⟩ rfl rfl (B.sub_i64 (by omega) (by omega))) rfl ?_
      clear h a w; intro a w h
      refine h_take (listed' := #[true, true, true, true, true, true, true, true, true, true, false, false, false, false, false, false]) h 9 (by as_aux_lemma => kernel_rfl) rfl (by as_aux_lemma => kernel_rfl) (by as_aux_lemma => kernel_rfl) (by as_aux_lemma => kernel_rfl) (fun _ _ _ hh => hh) (by first | exact hpre _ h.2 | exact hpost _ h.2 | exact h.2 | exact h.2.drop 1 | exact h.2.drop 2 | exact h.2.drop 3 | exact h.2.drop 4 | exact h.2.drop 5 | exact h.2.drop 6) (fun w hw => r_indexAddrA ⟨h.1, hw⟩ rfl rfl K.u_A64_uint32 K.sz_uint32 (i - 7) (by omega) (by omega)) rfl ?_
      clear h a w; intro a w h
      refine h_take (listed' := #[true, true, true, true, true, true, true, true, true, true, true, false, false, false, false, false]) h 10 (by as_aux_lemma => kernel_rfl) rfl (by as_aux_lemma => kernel_rfl) (by as_aux_lemma => kernel_rfl) (by as_aux_lemma => kernel_rfl) (fun _ _ _ hh => hh) (by first | exact hpre _ h.2 | exact hpost _ h.2 | exact h.2 | exact h.2.drop 1 | exact h.2.drop 2 | exact h.2.drop 3 | exact h.2.drop 4 | exact h.2.drop 5 | exact h.2.drop 6) (fun w hw => r_loadG ⟨h.1, hw⟩ rfl K.u_uint32 rfl hcp (i - 7) (by omega) (hg _ _ (by omega) hy2)) rfl ?_
      clear h a w; intro a w h
      refine h_take (listed' := #[true, true, true, true, true, true, true, true, true, true, true, true, false, false, false, false]) h 11 (by as_aux_lemma => kernel_rfl) rfl (by as_aux_lemma => kernel_rfl) (by as_aux_lemma => kernel_rfl) (by as_aux_lemma => kernel_rfl) (fun _ _ _ hh => hh) (by first | exact hpre _ h.2 | exact hpost _ h.2 | exact h.2 | exact h.2.drop 1 | exact h.2.drop 2 | exact h.2.drop 3 | exact h.2.drop 4 | exact h.2.drop 5 | exact h.2.drop 6) (fun w hw => r_bin ⟨h.1, hw⟩ rfl rfl (B.add_u32)) rfl ?_
      clear h a w; intro a w h
      refine h_take (listed' := #[true, true, true, true, true, true, true, true, true, true, true, true, true, false, false, false]) h 12 (by as_aux_lemma => kernel_rfl) rfl (by as_aux_lemma => kernel_rfl) (by as_aux_lemma => kernel_rfl) (by as_aux_lemma => kernel_rfl) (fun _ _ _ hh => hh) (by first | exact hpre _ h.2 | exact hpost _ h.2 | exact h.2 | exact h.2.drop 1 | exact h.2.drop 2 | exact h.2.drop 3 | exact h.2.drop 4 | exact h.2.drop 5 | exact h.2.drop 6) (fun w hw => r_move ⟨h.1, hw⟩ rfl) rfl ?_
      clear h a w; intro a w h
      refine h_take (listed' := #[true, true, true, true, true, true, true, true, true, true, true, true, true, true, false, false]) h 13 (by as_aux_lemma => kernel_rfl) rfl (by as_aux_lemma => kernel_rfl) (by as_aux_lemma => kernel_rfl) (by as_aux_lemma => kernel_rfl) (fun _ _ _ hh => hh) (by first | exact hpre _ h.2 | exact hpost _ h.2 | exact h.2 | exact h.2.drop 1 | exact h.2.drop 2 | exact h.2.drop 3 | exact h.2.drop 4 | exact h.2.drop 5 | exact h.2.drop 6) (fun w hw => r_bin ⟨h.1, hw⟩ rfl rfl (B.add_u32)) rfl ?_
      clear h a w; intro a w h
      refine h_take (listed' := #[true, true, true, true, true, true, true, true, true, true, true, true, true, true, true, false]) h 14 (by as_aux_lemma => kernel_rfl) rfl (by as_aux_lemma => kernel_rfl) (by as_aux_lemma => kernel_rfl) (by as_aux_lemma => kernel_rfl) (fun _ _ _ hh => hh) (by first | exact hpre _ h.2 | exact hpost _ h.2 | exact h.2 | exact h.2.drop 1 | exact h.2.drop 2 | exact h.2.drop 3 | exact h.2.drop 4 | exact h.2.drop 5 | exact h.2.drop 6) (fun w hw => r_indexAddrA ⟨h.1, hw⟩ rfl rfl K.u_A64_uint32 K.sz_uint32 i rfl (by omega)) rfl ?_
      clear h a w; intro a w h
      refine h_only (listed' := #[true, true, true, true, true, true, true, true, true, true, true, true, true, true, true, true]) 15 (by as_aux_lemma => kernel_rfl) rfl rfl (by as_aux_lemma => kernel_rfl) ?_
      refine op_store32 h rfl rfl K.sz_uint32 0 rfl (by simp; omega) ?_
      clear h a w; intro a w h
      simp only [List.set_cons_zero] at h
      rw [hfl] at h
      refine ⟨(by first | exact hpre _ h.2 | exact hpost _ h.2 | exact h.2 | exact h.2.drop 1 | exact h.2.drop 2 | exact h.2.drop 3 | exact h.2.drop 4 | exact h.2.drop 5 | exact h.2.drop 6), ?_⟩
      refine h_done (by kernel_rfl) ?_
      refine b_normal ?_
      refine c_then ?_
      refine c_region ?_
      refine wv h (r_move h rfl) rfl ?_
      clear h a w; intro a w h
      refine wv h (r_bin h rfl rfl (B.add_i64 (by omega) (by omega))) rfl ?_
      clear h a w; intro a w h
      refine wv h (r_assign h rfl) rfl ?_
      clear h a w; intro a w h
      refine wnil ?_
      refine ⟨i + 1, h.keep [2, 4, 5, 7], ?_, ?_⟩
      · show 16 ≤ i + 1 ∧ i + 1 ≤ 64; omega
      · show 64 - (i + 1) < 64 - i; omega
     ·
      have hi64 : i = 64 := by omega
      subst hi64
      rw [Nat.sub_self, List.take_of_length_le (by omega), show W ++ List.replicate 0 (0 : UInt32) = W by simp, ← hG] at h
      refine c_exit ?_
      refine e_then ?_
      refine e_then ?_
      refine e_here ?_
      refine c_then ?_
      refine c_seq (c_region ?_)
      refine wv h (r_loadA32 h rfl K.u_A8_uint32 rfl K.sz_A8_uint32 2 rfl rfl) rfl ?_
      clear h a w; intro a w h
      refine wl rfl (op_alloc h K.z_A8_uint32 rfl ?_)
      clear h a w; intro bv1 a w h
      refine wl rfl (op_storeA32 h rfl rfl K.sz_A8_uint32 rfl 0 rfl rfl ?_)
      clear h a w; intro a w h
      generalize hH : (Blk bw (.cells (arr32 W) t_A64_uint32) :: Blk b4 (.cells (arr32 [0, 0, 0, 0, 0, 0, 0, 0]) t_A8_uint32) :: Blk b2 (.cells (arr32 hh.lst) t_A8_uint32) :: F) = H at h
      have hTH : CellsAt H ⟨g_stamp_parts, 0, none⟩ shaKV := by rw [← hH]; exact ((hT.cons _).cons _).cons _
      refine wnil (c_then ?_)
      refine c_seq ?_
      refine c_seq (c_region ?_)
      refine wv h (r_move h rfl) rfl ?_
      clear h a w; intro a w h
      refine wnil (c_then ?_)
      refine c_block ?_
      refine c_loop (X := Nat) (fun i => [(2, .pointer (some ⟨b2, 0, none⟩)), (4, .pointer (some ⟨b4, 0, none⟩)), (5, .pointer (some ⟨bw, 0, none⟩)), (12, .pointer (some ⟨bv1, 0, none⟩)), (104, .int .i64 (i : Int))])
        (fun i => Blk bv1 (.cells (arr32 (shaRounds hh W i).lst) t_A8_uint32) :: H) (fun i => i ≤ 64) (fun i => 64 - i) 0 (h.keep [2, 4, 5, 12, 104]) (by simp) ?_
      clear h a w; intro i a w hx h
      as_aux_lemma =>
       refine c_seq (c_region ?_)
       refine wv h (r_bin h rfl rfl (B.lss_int)) rfl ?_
       clear h a w; intro a w h
       refine wnil (c_then ?_)
       refine c_seq ?_
       refine c_condD h rfl (fun ht3 => ?_) (fun ht3 => ?_)
       ·
        obtain ⟨ww, hww⟩ : ∃ b, W[i]? = some b := ⟨W[i]'(by omega), by simp⟩
        obtain ⟨kk, hkk⟩ : ∃ b, shaK[i]? = some b := ⟨shaK[i]'(by rw [shaK_len]; omega), by simp⟩
        have hkv : shaKV[i]? = some (w32 kk) := by simp [shaKV, hkk]
        have hrd : shaRounds hh W (i + 1) = shaRound (shaRounds hh W i) kk ww := by
          show shaRound (shaRounds hh W i) (shaK.getD i 0) (W.getD i 0) = _
          rw [List.getD_eq_getElem?_getD, List.getD_eq_getElem?_getD, hkk, hww]; rfl
        generalize shaRounds hh W i = V at h hrd
        have hTL : CellsAt (Blk bv1 (.cells (arr32 V.lst) t_A8_uint32) :: H) ⟨g_stamp_parts, 0, none⟩ shaKV := hTH.cons _
        have hcw : CellsAt (Blk bv1 (.cells (arr32 V.lst) t_A8_uint32) :: H) ⟨bw, 0, none⟩ (W.map w32) := by
          rw [← hH]; exact CellsAt.of_mem 1 rfl (fun j u hj => by simpa [arr32] using hj)
        have hwv : (W.map w32)[i]? = some (w32 ww) := by simp [hww]
        refine c_skip ?_
        refine c_then ?_
        refine c_seq ?_
        refine c_block ?_
        refine c_seq (c_region ?_)
        refine wv h (r_move h rfl) rfl ?_
        clear h a w; intro a w h
        refine wv h (r_assign h rfl) rfl ?_
        clear h a w; intro a w h
        refine wnil (c_then ?_)
        refine c_seq (c_draw K.mixed (by kernel_rfl) h ?_)
        clear h a w; intro a hE
        refine qv hE (fun w hw => r_indexAddrA ⟨hE, hw⟩ rfl rfl K.u_A8_uint32 K.sz_uint32 4 rfl (by omega)) rfl ?_
        clear hE a; intro a hE
        refine qv hE (fun w hw => r_load32 (u := V.e) ⟨hE, hw⟩ rfl K.u_uint32 rfl 0 rfl rfl) rfl ?_
        clear hE a; intro a hE
        refine qv hE (fun w hw => r_indexAddrA ⟨hE, hw⟩ rfl rfl K.u_A8_uint32 K.sz_uint32 0 rfl (by omega)) rfl ?_
        clear hE a; intro a hE
        refine qv hE (fun w hw => r_load32 (u := V.a) ⟨hE, hw⟩ rfl K.u_uint32 rfl 0 rfl rfl) rfl ?_
        clear hE a; intro a hE
        refine qv hE (fun w hw => r_assign ⟨hE, hw⟩ rfl) rfl ?_
        clear hE a; intro a hE
        refine qv hE (fun w hw => r_assign ⟨hE, hw⟩ rfl) rfl ?_
        clear hE a; intro a hE
        refine qnil hE ?_
        clear hE a; intro a w h
        refine c_then ?_
        refine c_seq (c_region ?_)
        refine wv h (r_move h rfl) rfl ?_
        clear h a w; intro a w h
        refine wl rfl (op_call h rfl K.go_math_bits_RotateLeft32 (rotate_left s _ V.e 6 (by omega) (by omega) _ h.2) rfl ?_)
        clear h a w; intro x a w hx h
        refine wv h (r_move h rfl) rfl ?_
        clear h a w; intro a w h
        refine wl rfl (op_call h rfl K.go_math_bits_RotateLeft32 (rotate_left s _ V.e 11 (by omega) (by omega) _ h.2) rfl ?_)
        clear h a w; intro x a w hx h
        refine wv h (r_bin h rfl rfl (B.xor_u32)) rfl ?_
        clear h a w; intro a w h
        refine wv h (r_move h rfl) rfl ?_
        clear h a w; intro a w h
        refine wl rfl (op_call h rfl K.go_math_bits_RotateLeft32 (rotate_left s _ V.e 25 (by omega) (by omega) _ h.2) rfl ?_)
        clear h a w; intro x a w hx h
        refine wv h (r_bin h rfl rfl (B.xor_u32)) rfl ?_
        clear h a w; intro a w h
        refine wv h (r_assign h rfl) rfl ?_
        clear h a w; intro a w h
        refine wnil (c_then ?_)
        refine c_seq (c_draw K.mixed (by kernel_rfl) h ?_)
        clear h a w; intro a hE
        refine qv hE (fun w hw => r_indexAddrA ⟨hE, hw⟩ rfl rfl K.u_A8_uint32 K.sz_uint32 7 rfl (by omega)) rfl ?_
        clear hE a; intro a hE
        refine qv hE (fun w hw => r_load32 (u := V.z) ⟨hE, hw⟩ rfl K.u_uint32 rfl 0 rfl rfl) rfl ?_
        clear hE a; intro a hE
        refine qv hE (fun w hw => r_move ⟨hE, hw⟩ rfl) rfl ?_
        clear hE a; intro a hE
        refine qv hE (fun w hw => r_bin ⟨hE, hw⟩ rfl rfl (B.add_u32)) rfl ?_
        clear hE a; intro a hE
        refine qv hE (fun w hw => r_move ⟨hE, hw⟩ rfl) rfl ?_
        clear hE a; intro a hE
        refine qv hE (fun w hw => r_indexAddrA ⟨hE, hw⟩ rfl rfl K.u_A8_uint32 K.sz_uint32 5 rfl (by omega)) rfl ?_
        clear hE a; intro a hE
        refine qv hE (fun w hw => r_load32 (u := V.f) ⟨hE, hw⟩ rfl K.u_uint32 rfl 0 rfl rfl) rfl ?_
        clear hE a; intro a hE
        refine qv hE (fun w hw => r_bin ⟨hE, hw⟩ rfl rfl (B.and_u32)) rfl ?_
        clear hE a; intro a hE
        refine qv hE (fun w hw => r_move ⟨hE, hw⟩ rfl) rfl ?_
        clear hE a; intro a hE
        refine qv hE (fun w hw => r_compl32 ⟨hE, hw⟩ rfl) rfl ?_
        clear hE a; intro a hE
        refine qv hE (fun w hw => r_indexAddrA ⟨hE, hw⟩ rfl rfl K.u_A8_uint32 K.sz_uint32 6 rfl (by omega)) rfl ?_
        clear hE a; intro a hE
        refine qv hE (fun w hw => r_load32 (u := V.g) ⟨hE, hw⟩ rfl K.u_uint32 rfl 0 rfl rfl) rfl ?_
        clear hE a; intro a hE
        refine qv hE (fun w hw => r_bin ⟨hE, hw⟩ rfl rfl (B.and_u32)) rfl ?_
        clear hE a; intro a hE
        refine qv hE (fun w hw => r_bin ⟨hE, hw⟩ rfl rfl (B.xor_u32)) rfl ?_
        clear hE a; intro a hE
        refine qv hE (fun w hw => r_bin ⟨hE, hw⟩ rfl rfl (B.add_u32)) rfl ?_
        clear hE a; intro a hE
        refine qv hE (fun w hw => r_move ⟨hE, hw⟩ rfl) rfl ?_
        clear hE a; intro a hE
        refine qv hE (fun w hw => r_indexAddrA ⟨hE, hw⟩ rfl rfl K.u_A64_uint32 K.sz_uint32 i rfl (by omega)) rfl ?_
        clear hE a; intro a hE
        refine qv hE (fun w hw => r_loadG ⟨hE, hw⟩ rfl K.u_uint32 rfl hTL i (by omega) hkv) rfl ?_
        clear hE a; intro a hE
        refine qv hE (fun w hw => r_bin ⟨hE, hw⟩ rfl rfl (B.add_u32)) rfl ?_
        clear hE a; intro a hE
        refine qv hE (fun w hw => r_move ⟨hE, hw⟩ rfl) rfl ?_
        clear hE a; intro a hE
        refine qv hE (fun w hw => r_indexAddrA ⟨hE, hw⟩ rfl rfl K.u_A64_uint32 K.sz_uint32 i rfl (by omega)) rfl ?_
        clear hE a; intro a hE
        refine qv hE (fun w hw => r_loadG ⟨hE, hw⟩ rfl K.u_uint32 rfl hcw i (by omega) hwv) rfl ?_
        clear hE a; intro a hE
        refine qv hE (fun w hw => r_bin ⟨hE, hw⟩ rfl rfl (B.add_u32)) rfl ?_
        clear hE a; intro a hE
        rw [show V.z + (rotr V.e 6 ^^^ rotr V.e 11 ^^^ rotr V.e 25) + (V.e &&& V.f ^^^ ~~~V.e &&& V.g) + kk + ww = shaT V kk ww from rfl] at hE
        refine qv hE (fun w hw => r_assign ⟨hE, hw⟩ rfl) rfl ?_
        clear hE a; intro a hE
        refine qnil hE ?_
        clear hE a; intro a w h
        refine c_then ?_
        refine c_seq (c_region ?_)
        refine wv h (r_move h rfl) rfl ?_
        clear h a w; intro a w h
        refine wl rfl (op_call h rfl K.go_math_bits_RotateLeft32 (rotate_left s _ V.a 2 (by omega) (by omega) _ h.2) rfl ?_)
        clear h a w; intro x a w hx h
        refine wv h (r_move h rfl) rfl ?_
        clear h a w; intro a w h
        refine wl rfl (op_call h rfl K.go_math_bits_RotateLeft32 (rotate_left s _ V.a 13 (by omega) (by omega) _ h.2) rfl ?_)
        clear h a w; intro x a w hx h
        refine wv h (r_bin h rfl rfl (B.xor_u32)) rfl ?_
        clear h a w; intro a w h
        refine wv h (r_move h rfl) rfl ?_
        clear h a w; intro a w h
        refine wl rfl (op_call h rfl K.go_math_bits_RotateLeft32 (rotate_left s _ V.a 22 (by omega) (by omega) _ h.2) rfl ?_)
        clear h a w; intro x a w hx h
        refine wv h (r_bin h rfl rfl (B.xor_u32)) rfl ?_
        clear h a w; intro a w h
        refine wv h (r_assign h rfl) rfl ?_
        clear h a w; intro a w h
        refine wnil (c_then ?_)
        refine c_seq (c_region ?_)
        refine wv h (r_move h rfl) rfl ?_
        clear h a w; intro a w h
        refine wv h (r_move h rfl) rfl ?_
        clear h a w; intro a w h
        refine wv h (r_indexAddrA h rfl rfl K.u_A8_uint32 K.sz_uint32 1 rfl (by omega)) rfl ?_
        clear h a w; intro a w h
        refine wv h (r_load32 (u := V.b) h rfl K.u_uint32 rfl 0 rfl rfl) rfl ?_
        clear h a w; intro a w h
        refine wv h (r_bin h rfl rfl (B.and_u32)) rfl ?_
        clear h a w; intro a w h
        refine wv h (r_move h rfl) rfl ?_
        clear h a w; intro a w h
        refine wv h (r_indexAddrA h rfl rfl K.u_A8_uint32 K.sz_uint32 2 rfl (by omega)) rfl ?_
        clear h a w; intro a w h
        refine wv h (r_load32 (u := V.c) h rfl K.u_uint32 rfl 0 rfl rfl) rfl ?_
        clear h a w; intro a w h
        refine wv h (r_bin h rfl rfl (B.and_u32)) rfl ?_
        clear h a w; intro a w h
        refine wv h (r_bin h rfl rfl (B.xor_u32)) rfl ?_
        clear h a w; intro a w h
        refine wv h (r_indexAddrA h rfl rfl K.u_A8_uint32 K.sz_uint32 1 rfl (by omega)) rfl ?_
        clear h a w; intro a w h
        refine wv h (r_load32 (u := V.b) h rfl K.u_uint32 rfl 0 rfl rfl) rfl ?_
        clear h a w; intro a w h
        refine wv h (r_indexAddrA h rfl rfl K.u_A8_uint32 K.sz_uint32 2 rfl (by omega)) rfl ?_
        clear h a w; intro a w h
        refine wv h (r_load32 (u := V.c) h rfl K.u_uint32 rfl 0 rfl rfl) rfl ?_
        clear h a w; intro a w h
        refine wv h (r_bin h rfl rfl (B.and_u32)) rfl ?_
        clear h a w; intro a w h
        refine wv h (r_bin h rfl rfl (B.xor_u32)) rfl ?_
        clear h a w; intro a w h
        refine wv h (r_bin h rfl rfl (B.add_u32)) rfl ?_
        clear h a w; intro a w h
        rw [show (rotr V.a 2 ^^^ rotr V.a 13 ^^^ rotr V.a 22) + (V.a &&& V.b ^^^ V.a &&& V.c ^^^ V.b &&& V.c) = shaU V from rfl] at h
        refine wv h (r_assign h rfl) rfl ?_
        clear h a w; intro a w h
        refine wnil (c_then ?_)
        refine c_region ?_
        refine wv h (r_move h rfl) rfl ?_
        clear h a w; intro a w h
        refine wv h (r_move h rfl) rfl ?_
        clear h a w; intro a w h
        refine wv h (r_bin h rfl rfl (B.add_u32)) rfl ?_
        clear h a w; intro a w h
        refine wv h (r_move h rfl) rfl ?_
        clear h a w; intro a w h
        refine wv h (r_indexAddrA h rfl rfl K.u_A8_uint32 K.sz_uint32 1 rfl (by omega)) rfl ?_
        clear h a w; intro a w h
        refine wv h (r_load32 (u := V.b) h rfl K.u_uint32 rfl 0 rfl rfl) rfl ?_
        clear h a w; intro a w h
        refine wv h (r_indexAddrA h rfl rfl K.u_A8_uint32 K.sz_uint32 2 rfl (by omega)) rfl ?_
        clear h a w; intro a w h
        refine wv h (r_load32 (u := V.c) h rfl K.u_uint32 rfl 0 rfl rfl) rfl ?_
        clear h a w; intro a w h
        refine wv h (r_indexAddrA h rfl rfl K.u_A8_uint32 K.sz_uint32 3 rfl (by omega)) rfl ?_
        clear h a w; intro a w h
        refine wv h (r_load32 (u := V.d) h rfl K.u_uint32 rfl 0 rfl rfl) rfl ?_
        clear h a w; intro a w h
        refine wv h (r_move h rfl) rfl ?_
        clear h a w; intro a w h
        refine wv h (r_bin h rfl rfl (B.add_u32)) rfl ?_
        clear h a w; intro a w h
        refine wv h (r_move h rfl) rfl ?_
        clear h a w; intro a w h
        refine wv h (r_indexAddrA h rfl rfl K.u_A8_uint32 K.sz_uint32 5 rfl (by omega)) rfl ?_
        clear h a w; intro a w h
        refine wv h (r_load32 (u := V.f) h rfl K.u_uint32 rfl 0 rfl rfl) rfl ?_
        clear h a w; intro a w h
        refine wv h (r_indexAddrA h rfl rfl K.u_A8_uint32 K.sz_uint32 6 rfl (by omega)) rfl ?_
        clear h a w; intro a w h
        refine wv h (r_load32 (u := V.g) h rfl K.u_uint32 rfl 0 rfl rfl) rfl ?_
        clear h a w; intro a w h
        refine wv h (r_buildA h K.u_A8_uint32 K.z_A8_uint32 K.sz_uint32 rfl (fill8 (shaT V kk ww + shaU V) V.a V.b V.c (V.d + shaT V kk ww) V.e V.f V.g)) rfl ?_
        clear h a w; intro a w h
        rw [show arr32 [shaT V kk ww + shaU V, V.a, V.b, V.c, V.d + shaT V kk ww, V.e, V.f, V.g] = arr32 (shaRound V kk ww).lst from rfl] at h
        refine wl rfl (op_storeA32 h rfl rfl K.sz_A8_uint32 rfl 0 rfl rfl ?_)
        clear h a w; intro a w h
        rw [← hrd] at h
        refine wnil ?_
        refine b_normal ?_
        refine c_then ?_
        refine c_region ?_
        refine wv h (r_bin h rfl rfl (B.add_i64 (by omega) (by omega))) rfl ?_
        clear h a w; intro a w h
        refine wv h (r_move h rfl) rfl ?_
        clear h a w; intro a w h
        refine wnil ?_
        refine ⟨i + 1, h.keep [2, 4, 5, 12, 104], ?_, ?_⟩
        · show i + 1 ≤ 64; omega
        · show 64 - (i + 1) < 64 - i; omega
       ·
        have hi64 : i = 64 := by omega
        subst hi64
        generalize shaRounds hh W 64 = V at h hblk
        rw [← hH] at h
        have hD : ∀ i < 8, ∃ x y, hh.lst[i]? = some x ∧ V.lst[i]? = some y ∧ (shaAdd hh V).lst[i]? = some (x + y) := by
          intro i hi
          have : i = 0 ∨ i = 1 ∨ i = 2 ∨ i = 3 ∨ i = 4 ∨ i = 5 ∨ i = 6 ∨ i = 7 := by omega
          rcases this with rfl | rfl | rfl | rfl | rfl | rfl | rfl | rfl <;> exact ⟨_, _, rfl, rfl, rfl⟩
        replace h := h.front 3 rfl
        replace h : St 199 s a w _ (Blk b2 (.cells (arr32 hh.lst) t_A8_uint32) :: Blk bv1 (.cells (arr32 V.lst) t_A8_uint32) :: Blk bw (.cells (arr32 W) t_A64_uint32) :: Blk b4 (.cells (arr32 [0, 0, 0, 0, 0, 0, 0, 0]) t_A8_uint32) :: F) := h
        rw [show hh.lst = (shaAdd hh V).lst.take 0 ++ hh.lst.drop 0 by simp] at h
        generalize hK : (Blk bv1 (.cells (arr32 V.lst) t_A8_uint32) :: Blk bw (.cells (arr32 W) t_A64_uint32) :: Blk b4 (.cells (arr32 [0, 0, 0, 0, 0, 0, 0, 0]) t_A8_uint32) :: F) = K0 at h
        refine c_exit ?_
        refine e_then ?_
        refine e_then ?_
        refine e_here ?_
        refine c_then ?_
        refine c_seq ?_
        refine c_seq (c_region ?_)
        refine wv h (r_move h rfl) rfl ?_
        clear h a w; intro a w h
        refine wnil (c_then ?_)
        refine c_block ?_
        refine c_loop (X := Nat) (fun i => [(2, .pointer (some ⟨b2, 0, none⟩)), (4, .pointer (some ⟨b4, 0, none⟩)), (12, .pointer (some ⟨bv1, 0, none⟩)), (186, .int .i64 (i : Int))])
          (fun i => Blk b2 (.cells (arr32 ((shaAdd hh V).lst.take i ++ hh.lst.drop i)) t_A8_uint32) :: K0) (fun i => i ≤ 8) (fun i => 8 - i) 0 (h.keep [2, 4, 12, 186]) (by simp) ?_
        clear h a w; intro i a w hx h
        as_aux_lemma =>
         refine c_seq (c_region ?_)
         refine wv h (r_bin h rfl rfl (B.lss_int)) rfl ?_
         clear h a w; intro a w h
         refine wnil (c_then ?_)
         refine c_seq ?_
         refine c_condD h rfl (fun ht4 => ?_) (fun ht4 => ?_)
         ·
          obtain ⟨x, y, hx1, hx2, hx3⟩ := hD i (by omega)
          have hov := arr_over (shaAdd hh V).lst hh.lst _ i hx3 rfl
          have hcv : CellsAt K0 ⟨bv1, 0, none⟩ (V.lst.map w32) := by rw [← hK]; exact CellsAt.of_mem 0 rfl (fun j u hj => by simpa [arr32] using hj)
          have hvv : (V.lst.map w32)[i]? = some (w32 y) := by rw [List.getElem?_map, hx2]; rfl
          have hxx : ((shaAdd hh V).lst.take i ++ hh.lst.drop i)[i]? = some x := by
            have hl : ((shaAdd hh V).lst.take i).length = i := by rw [List.length_take]; show min i 8 = i; omega
            rw [List.getElem?_append_right (by omega), hl, Nat.sub_self, List.getElem?_drop]; simpa using hx1
          refine c_skip ?_
          refine c_then ?_
          refine c_seq ?_
          refine c_block ?_
          refine c_seq (c_region ?_)
          refine wv h (r_move h rfl) rfl ?_
          clear h a w; intro a w h
          refine wv h (r_assign h rfl) rfl ?_
          clear h a w; intro a w h
          refine wnil (c_then ?_)
          refine c_held (K0) 9 K.mixed rfl h ?_
          clear h a w; intro a w h
          refine h_take (listed' := #[true, false, false, false, false, false, false, false, false]) h 0 (by as_aux_lemma => kernel_rfl) rfl (by as_aux_lemma => kernel_rfl) (by as_aux_lemma => kernel_rfl) (by as_aux_lemma => kernel_rfl) (fun _ _ _ hh => hh) (by first | exact h.2 | exact h.2.drop 1 | exact h.2.drop 2 | exact h.2.drop 3 | exact h.2.drop 4 | exact h.2.drop 5 | exact h.2.drop 6) (fun w hw => r_move ⟨h.1, hw⟩ rfl) rfl ?_
          clear h a w; intro a w h
          refine h_take (listed' := #[true, true, false, false, false, false, false, false, false]) h 1 (by as_aux_lemma => kernel_rfl) rfl (by as_aux_lemma => kernel_rfl) (by as_aux_lemma => kernel_rfl) (by as_aux_lemma => kernel_rfl) (fun _ _ _ hh => hh) (by first | exact h.2 | exact h.2.drop 1 | exact h.2.drop 2 | exact h.2.drop 3 | exact h.2.drop 4 | exact h.2.drop 5 | exact h.2.drop 6) (fun w hw => r_indexAddrA ⟨h.1, hw⟩ rfl rfl K.u_A8_uint32 K.sz_uint32 i rfl (by omega)) rfl ?_
          clear h a w; intro a w h
          refine h_take (listed' := #[true, true, false, true, false, false, false, false, false]) h 3 (by as_aux_lemma => kernel_rfl) rfl (by as_aux_lemma => kernel_rfl) (by as_aux_lemma => kernel_rfl) (by as_aux_lemma => kernel_rfl) (fun _ _ _ hh => hh) (by first | exact h.2 | exact h.2.drop 1 | exact h.2.drop 2 | exact h.2.drop 3 | exact h.2.drop 4 | exact h.2.drop 5 | exact h.2.drop 6) (fun w hw => r_move ⟨h.1, hw⟩ rfl) rfl ?_
          clear h a w; intro a w h
          refine h_take (listed' := #[true, true, false, true, true, false, false, false, false]) h 4 (by as_aux_lemma => kernel_rfl) rfl (by as_aux_lemma => kernel_rfl) (by as_aux_lemma => kernel_rfl) (by as_aux_lemma => kernel_rfl) (fun _ _ _ hh => hh) (by first | exact h.2 | exact h.2.drop 1 | exact h.2.drop 2 | exact h.2.drop 3 | exact h.2.drop 4 | exact h.2.drop 5 | exact h.2.drop 6) (fun w hw => r_indexAddrA ⟨h.1, hw⟩ rfl rfl K.u_A8_uint32 K.sz_uint32 i rfl (by omega)) rfl ?_
          clear h a w; intro a w h
          refine h_take (listed' := #[true, true, false, true, true, true, false, false, false]) h 5 (by as_aux_lemma => kernel_rfl) rfl (by as_aux_lemma => kernel_rfl) (by as_aux_lemma => kernel_rfl) (by as_aux_lemma => kernel_rfl) (fun _ _ _ hh => hh) (by first | exact h.2 | exact h.2.drop 1 | exact h.2.drop 2 | exact h.2.drop 3 | exact h.2.drop 4 | exact h.2.drop 5 | exact h.2.drop 6) (fun w hw => r_loadG ⟨h.1, hw⟩ rfl K.u_uint32 rfl hcv i (by omega) hvv) rfl ?_
          clear h a w; intro a w h
          refine h_only (listed' := #[true, true, true, true, true, true, false, false, false]) 2 (by as_aux_lemma => kernel_rfl) rfl rfl (by as_aux_lemma => kernel_rfl) ?_
          refine op_run h (r_load32 h rfl K.u_uint32 rfl 0 rfl hxx) rfl h.2 ?_
          clear h a w; intro a w h
          refine ⟨(by first | exact h.2 | exact h.2.drop 1 | exact h.2.drop 2 | exact h.2.drop 3 | exact h.2.drop 4 | exact h.2.drop 5 | exact h.2.drop 6), ?_⟩
          refine h_take (listed' := #[true, true, true, true, true, true, true, false, false]) h 6 (by as_aux_lemma => kernel_rfl) rfl (by as_aux_lemma => kernel_rfl) (by as_aux_lemma => kernel_rfl) (by as_aux_lemma => kernel_rfl) (fun _ _ _ hh => hh) (by first | exact h.2 | exact h.2.drop 1 | exact h.2.drop 2 | exact h.2.drop 3 | exact h.2.drop 4 | exact h.2.drop 5 | exact h.2.drop 6) (fun w hw => r_bin ⟨h.1, hw⟩ rfl rfl (B.add_u32)) rfl ?_
          clear h a w; intro a w h
          refine h_take (listed' := #[true, true, true, true, true, true, true, true, false]) h 7 (by as_aux_lemma => kernel_rfl) rfl (by as_aux_lemma => kernel_rfl) (by as_aux_lemma => kernel_rfl) (by as_aux_lemma => kernel_rfl) (fun _ _ _ hh => hh) (by first | exact h.2 | exact h.2.drop 1 | exact h.2.drop 2 | exact h.2.drop 3 | exact h.2.drop 4 | exact h.2.drop 5 | exact h.2.drop 6) (fun w hw => r_indexAddrA ⟨h.1, hw⟩ rfl rfl K.u_A8_uint32 K.sz_uint32 i rfl (by omega)) rfl ?_
          clear h a w; intro a w h
          refine h_only (listed' := #[true, true, true, true, true, true, true, true, true]) 8 (by as_aux_lemma => kernel_rfl) rfl rfl (by as_aux_lemma => kernel_rfl) ?_
          refine op_store32 h rfl rfl K.sz_uint32 0 rfl (by rw [List.length_append, List.length_take, List.length_drop]; show i < min i 8 + (8 - i); omega) ?_
          clear h a w; intro a w h
          simp only [List.set_cons_zero] at h
          rw [hov] at h
          refine ⟨(by first | exact h.2 | exact h.2.drop 1 | exact h.2.drop 2 | exact h.2.drop 3 | exact h.2.drop 4 | exact h.2.drop 5 | exact h.2.drop 6), ?_⟩
          refine h_done (by kernel_rfl) ?_
          refine b_normal ?_
          refine c_then ?_
          refine c_region ?_
          refine wv h (r_bin h rfl rfl (B.add_i64 (by omega) (by omega))) rfl ?_
          clear h a w; intro a w h
          refine wv h (r_move h rfl) rfl ?_
          clear h a w; intro a w h
          refine wnil ?_
          refine ⟨i + 1, h.keep [2, 4, 12, 186], ?_, ?_⟩
          · show i + 1 ≤ 8; omega
          · show 8 - (i + 1) < 8 - i; omega
         ·
          have hi8 : i = 8 := by omega
          subst hi8
          rw [show (shaAdd hh V).lst.take 8 ++ hh.lst.drop 8 = (shaAdd hh V).lst from rfl, ← hK, ← hblk] at h
          refine c_exit ?_
          refine e_then ?_
          refine e_then ?_
          refine e_here ?_
          refine c_then ?_
          refine c_seq (c_region ?_)
          refine wv h (r_loadA32 h rfl K.u_A8_uint32 rfl K.sz_A8_uint32 0 rfl rfl) rfl ?_
          clear h a w; intro a w h
          refine wl rfl (op_storeA32 h rfl rfl K.sz_A8_uint32 rfl 3 rfl rfl ?_)
          clear h a w; intro a w h
          refine wnil (c_then ?_)
          refine c_ret ?_
          exact retc h rfl rfl K.u_A8_uint32 rfl K.sz_A8_uint32 3 rfl rfl ⟨(), rfl, h.2.drop 4, trivial⟩
end Go.Proofs.K
