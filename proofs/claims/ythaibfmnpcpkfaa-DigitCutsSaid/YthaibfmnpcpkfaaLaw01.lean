/- The statements of layer 1 (digit) return true: their walks. -/
import Derived.Test.YthaibfmnpcpkfaaDigit
import Derived.Test.YthaibfmnpcpkfaaDigitLaw
set_option linter.unusedVariables false
set_option linter.unusedSimpArgs false
set_option maxRecDepth 10000
namespace Go.Proofs.K
open Go.Sl

theorem ref_num (s w : World) (m : Nat) (F : List HItem) (hm : m < 9223372036854775808) (hs : Sat s w F) :
    Calls P n_ref01_Num #[.int .i64 (m : Int)] w (Ret s (fun v : Value => v) (fun v => OwnB v (numN m) :: F) (fun _ => True)) := by
  have hnl := numN_len9 m (by omega)
  refine enter K.fn_ref01_Num rfl K.nt_ref01_Num rfl hs ?_
  clear hs w; intro a w h
  refine c_seq (c_region ?_)
  refine wv h (r_assign h rfl) rfl ?_
  clear h a w; intro a w h
  refine wnil (c_then ?_)
  refine c_seq (c_region ?_)
  refine wv h (r_assign h rfl) rfl ?_
  clear h a w; intro a w h
  replace h := h.addNilb
  refine wnil (c_then ?_)
  refine c_seq ?_
  refine c_block ?_
  refine c_loop (X := Nat × Value × List UInt8) (fun x => [(0, .int .i64 (x.1 : Int)), (3, x.2.1)]) (fun x => OwnB x.2.1 x.2.2 :: F)
    (fun x => x.2.2 ++ numN x.1 = numN m ∧ x.1 ≤ m) (fun x => x.1) (m, .slice none 0 0, []) (h.keep [0, 3]) ⟨by simp, by omega⟩ ?_
  clear h a w; intro x a w hx h
  obtain ⟨u, vv, l'⟩ := x
  obtain ⟨hx1, hx2⟩ := hx
  simp only at h hx1 hx2
  have hlen := congrArg List.length hx1
  simp only [List.length_append] at hlen
  have hp := numN_len_pos u
  refine c_seq ?_
  refine c_seq (c_region ?_)
  refine wv h (r_move h rfl) rfl ?_
  clear h a w; intro a w h
  refine wv h (r_bin h rfl rfl (B.geq_int)) rfl ?_
  clear h a w; intro a w h
  refine wnil (c_then ?_)
  refine c_condD h rfl (fun ht1 => ?_) (fun ht1 => ?_)
  ·
    have ht' : ¬ u < 128 := by omega
    rw [numN, dif_neg ht'] at hx1
    refine c_skip ?_
    refine c_then ?_
    refine c_block ?_
    refine c_seq (c_region ?_)
    refine wv h (r_move h rfl) rfl ?_
    clear h a w; intro a w h
    refine wv h (r_move h rfl) rfl ?_
    clear h a w; intro a w h
    refine wv h (r_bin h rfl rfl (B.rem_i64 (by omega) (by omega))) rfl ?_
    clear h a w; intro a w h
    refine wv h (r_conv h rfl K.u_int K.u_uint8 (C.u8_i64) ) rfl ?_
    clear h a w; intro a w h
    refine wl rfl (op_buildSlice h K.u_S_uint8 K.sz_uint8 K.z_uint8 rfl rfl rfl rfl rfl (by simp [Value.cells, bv, w32, w64, sv]) rfl ?_)
    clear h a w; intro b1 a w h
    refine wl rfl (op_appendb h rfl rfl K.u_S_uint8 K.sz_uint8 K.z_uint8 rfl rfl 0 rfl (by omega) rfl ?_)
    clear h a w; intro v2 a w h
    refine wv h (r_assign h rfl) rfl ?_
    clear h a w; intro a w h
    refine wnil (c_then ?_)
    refine c_region ?_
    refine wv h (r_move h rfl) rfl ?_
    clear h a w; intro a w h
    refine wv h (r_bin h rfl rfl (B.quo_i64 (by omega) (by omega) (by omega))) rfl ?_
    clear h a w; intro a w h
    refine wv h (r_assign h rfl) rfl ?_
    clear h a w; intro a w h
    refine wnil ?_
    refine b_normal ?_
    refine ⟨(u / 128, v2, l' ++ [UInt8.ofInt ((u : Int) % 128)]), h.keep [0, 3], ⟨?_, ?_⟩, ?_⟩
    · have e : UInt8.ofInt ((u : Int) % 128) = UInt8.ofNat (u % 128) := by
        apply UInt8.toNat_inj.1; simp [UInt8.ofInt, UInt8.toNat_ofNat']; omega
      show (l' ++ [UInt8.ofInt ((u : Int) % 128)]) ++ numN (u / 128) = _
      rw [e, ← hx1]; simp
    · show u / 128 ≤ m; omega
    · show u / 128 < u; omega
  ·
    have ht' : u < 128 := by omega
    rw [numN, dif_pos ht'] at hx1
    refine c_exit ?_
    refine e_then ?_
    refine e_then ?_
    refine e_here ?_
    refine c_then ?_
    refine c_seq (c_region ?_)
    refine wv h (r_move h rfl) rfl ?_
    clear h a w; intro a w h
    refine wv h (r_move h rfl) rfl ?_
    clear h a w; intro a w h
    refine wv h (r_conv h rfl K.u_int K.u_uint8 (C.u8_i64) ) rfl ?_
    clear h a w; intro a w h
    refine wv h (r_bin h rfl rfl (B.add_u8 (y := 128))) rfl ?_
    clear h a w; intro a w h
    refine wl rfl (op_buildSlice h K.u_S_uint8 K.sz_uint8 K.z_uint8 rfl rfl rfl rfl rfl (by simp [Value.cells, bv, w32, w64, sv]) rfl ?_)
    clear h a w; intro b1 a w h
    refine wl rfl (op_appendb h rfl rfl K.u_S_uint8 K.sz_uint8 K.z_uint8 rfl rfl 0 rfl (by omega) rfl ?_)
    clear h a w; intro v2 a w h
    refine wv h (r_assign h rfl) rfl ?_
    clear h a w; intro a w h
    refine wnil (c_then ?_)
    refine c_ret ?_
    refine ret1 h rfl rfl ⟨v2, rfl, ?_, trivial⟩
    have e : UInt8.ofInt (u : Int) + 128 = UInt8.ofNat (u + 128) := by
      apply UInt8.toNat_inj.1; simp [UInt8.ofInt, UInt8.toNat_ofNat']; omega
    have h2 := h.2
    rw [e] at h2
    simp only [List.set_cons_zero] at h2
    rw [hx1] at h2
    exact h2
theorem ref_text (s w : World) (p : List UInt8) (F : List HItem) (hp : p.length ≤ 1000000) (hs : Sat s w F) :
    Calls P n_ref01_Text #[sv p] w (Ret s (fun v : Value => v) (fun v => OwnB v (numN p.length ++ p) :: F) (fun _ => True)) := by
  have hnl := numN_len9 p.length (by omega)
  refine enter K.fn_ref01_Text rfl K.nt_ref01_Text rfl hs ?_
  clear hs w; intro a w h
  refine c_seq (c_region ?_)
  refine wv h (r_assign h rfl) rfl ?_
  clear h a w; intro a w h
  refine wnil (c_then ?_)
  refine c_seq (c_region ?_)
  refine wv h (r_move h rfl) rfl ?_
  clear h a w; intro a w h
  refine wv h (r_lenT h rfl K.u_string) rfl ?_
  clear h a w; intro a w h
  refine wl rfl (op_call h rfl K.go_ref01_Num (ref_num s _ p.length F (by omega) h.2) rfl ?_)
  clear h a w; intro v1 a w hx h
  refine wv h (r_move h rfl) rfl ?_
  clear h a w; intro a w h
  refine wl rfl (op_appendbs h rfl rfl K.u_S_uint8 K.sz_uint8 K.z_uint8 rfl rfl 0 rfl (Src.text K.u_string) (by omega) rfl ?_)
  clear h a w; intro v2 a w h
  refine wv h (r_assign h rfl) rfl ?_
  clear h a w; intro a w h
  refine wnil (c_then ?_)
  refine c_ret ?_
  exact ret1 h rfl rfl ⟨v2, rfl, h.2, trivial⟩

theorem law_num (s w : World) (n : Int) (F : List HItem) (hs : Sat s w F) :
    Calls P n_law01_num #[.int .i64 n] w (Ret s (fun _ : Unit => .int .i64 (hnum n : Int)) (fun _ => F) (fun _ => True)) := by
  have hv : (UInt64.ofNat ((UInt64.ofInt n).toNat / 2 ^ (1 : Int).toNat)).toNat = hnum n := by
    have := (UInt64.ofInt n).toNat_lt
    show (UInt64.ofNat ((UInt64.ofInt n).toNat / 2)).toNat = _
    rw [UInt64.toNat_ofNat']; unfold hnum; omega
  have hlt := hnum_lt n
  refine enter K.fn_law01_num rfl K.nt_law01_num rfl hs ?_
  clear hs w; intro a w h
  refine c_seq (c_region ?_)
  refine wv h (r_assign h rfl) rfl ?_
  clear h a w; intro a w h
  refine wnil (c_then ?_)
  refine c_seq (c_region ?_)
  refine wv h (r_move h rfl) rfl ?_
  clear h a w; intro a w h
  refine wv h (r_conv h rfl K.u_int K.u_uint (C.u64_i64) ) rfl ?_
  clear h a w; intro a w h
  refine wv h (r_bin h rfl rfl (B.shr_u64 (by decide))) rfl ?_
  clear h a w; intro a w h
  refine wv h (r_conv h rfl K.u_uint K.u_int (C.i64_u64 (by rw [hv]; exact hlt))) rfl ?_
  clear h a w; intro a w h
  refine wv h (r_assign h rfl) rfl ?_
  clear h a w; intro a w h
  refine wnil (c_then ?_)
  refine c_ret ?_
  exact ret1 h rfl rfl ⟨(), by rw [hv], h.2, trivial⟩

theorem awake01 (s w : World) (F : List HItem) (hs : Sat s w F) :
    Calls P n_law01_awake #[] w (Ret s (fun _ : Unit => .bool true) (fun _ => F) (fun _ => True)) := by
  refine enter K.fn_law01_awake rfl K.nt_law01_awake rfl hs ?_
  clear hs w; intro a w h
  refine c_seq (c_region ?_)
  refine wv h (r_assign h rfl) rfl ?_
  clear h a w; intro a w h
  refine wnil (c_then ?_)
  refine c_seq (c_region ?_)
  refine wv h (r_build h K.u_digit_Pen K.z_digit_Pen K.pl_digit_Pen rfl rfl) rfl ?_
  clear h a w; intro a w h
  refine wl rfl (op_box h rfl rfl ?_)
  clear h a w; intro b a w h
  refine wv h (r_assign h rfl) rfl ?_
  clear h a w; intro a w h
  replace h := (h.addNilb).front 1 rfl
  refine wnil (c_then ?_)
  refine c_seq (c_region ?_)
  refine wv h (r_move h rfl) rfl ?_
  clear h a w; intro a w h
  refine wl rfl (op_call h rfl K.go_digit_Pen_Num (pen_num s _ b 0 _ _ (.slice none 0 0) [] 300 F (by omega) rfl (by simp) h.2) rfl ?_)
  clear h a w; intro v1 a w hx h
  refine wnil (c_then ?_)
  refine c_seq (c_region ?_)
  refine wv h (r_move h rfl) rfl ?_
  clear h a w; intro a w h
  refine wv h (r_nilCheck h rfl) rfl ?_
  clear h a w; intro a w h
  refine wv h (r_fieldAddr0 h rfl K.u_digit_Pen rfl K.sz_S_uint8 rfl rfl) rfl ?_
  clear h a w; intro a w h
  first
    | (refine wv h (r_load h rfl K.u_S_uint8 rfl 0 rfl rfl) rfl ?_)
    | (refine wv h (r_load h rfl K.u_S_uint8 rfl 1 rfl rfl) rfl ?_)
    | (refine wv h (r_load h rfl K.u_S_uint8 rfl 2 rfl rfl) rfl ?_)
    | (refine wv h (r_load h rfl K.u_S_uint8 rfl 3 rfl rfl) rfl ?_)
    | (refine wv h (r_load h rfl K.u_S_uint8 rfl 4 rfl rfl) rfl ?_)
    | (refine wv h (r_load h rfl K.u_S_uint8 rfl 5 rfl rfl) rfl ?_)
    | (refine wv h (r_load1 h rfl K.u_S_uint8 rfl (by assumption)) rfl ?_)
  clear h a w; intro a w h
  refine wv h (r_b2sb h rfl K.u_S_uint8 K.u_uint8 K.u_string (ViewsB.own 1 rfl)) rfl ?_
  clear h a w; intro a w h
  refine wv h (r_streq h rfl rfl) rfl ?_
  clear h a w; intro a w h
  refine wv h (r_assign h rfl) rfl ?_
  clear h a w; intro a w h
  refine wnil (c_then ?_)
  refine c_ret ?_
  refine ret1 h rfl rfl ⟨(), ?_, h.2.drop 2, trivial⟩
  have e : decide (([] : List UInt8) ++ numN 300 = [44, 130]) = true := by
    rw [show numN 300 = [44, 130] by rw [numN, dif_neg (by omega), numN, dif_pos (by omega)]; rfl]; rfl
  show Ending.returned (Value.bool (decide (([] : List UInt8) ++ numN 300 = [44, 130]))) = _
  rw [e]

theorem eye_num_nil (s w : World) (most : Int) (F : List HItem) (hs : Sat s w F) :
    Calls P n_digit_Eye_Num #[.pointer none, .int .i64 most] w (Ret s (fun _ : Unit => .int .i64 0) (fun _ => F) (fun _ => True)) := by
  refine enter K.fn_digit_Eye_Num rfl K.nt_digit_Eye_Num rfl hs ?_
  clear hs w; intro a w h
  refine c_seq (c_region ?_)
  refine wv h (r_assign h rfl) rfl ?_
  clear h a w; intro a w h
  refine wnil (c_then ?_)
  refine c_seq ?_
  refine c_seq (c_region ?_)
  refine wv h (r_move h rfl) rfl ?_
  clear h a w; intro a w h
  refine wv h (r_ptreq_nil h K.u_p_digit_Eye rfl rfl) rfl ?_
  clear h a w; intro a w h
  refine wv h (r_move h rfl) rfl ?_
  clear h a w; intro a w h
  first
    | (refine wvg h (r_move h rfl) rfl rfl ?_)
    | (refine wvs h rfl rfl ?_)
  clear h a w; intro a w h
  first
    | (refine wvg h (r_nilCheck h rfl) rfl rfl ?_)
    | (refine wvs h rfl rfl ?_)
  clear h a w; intro a w h
  first
    | (refine wvg h (r_fieldAddr h 1 rfl K.u_digit_Eye rfl K.sz_api_Errno rfl rfl) rfl rfl ?_)
    | (refine wvs h rfl rfl ?_)
  clear h a w; intro a w h
  first
    | (refine wvg h (r_load h rfl K.u_api_Errno rfl 0 rfl rfl) rfl rfl ?_)
    | (refine wvg h (r_load h rfl K.u_api_Errno rfl 1 rfl rfl) rfl rfl ?_)
    | (refine wvg h (r_load h rfl K.u_api_Errno rfl 2 rfl rfl) rfl rfl ?_)
    | (refine wvg h (r_load h rfl K.u_api_Errno rfl 3 rfl rfl) rfl rfl ?_)
    | (refine wvg h (r_load h rfl K.u_api_Errno rfl 4 rfl rfl) rfl rfl ?_)
    | (refine wvg h (r_load h rfl K.u_api_Errno rfl 5 rfl rfl) rfl rfl ?_)
    | (refine wvg h (r_load1 h rfl K.u_api_Errno rfl (by assumption)) rfl rfl ?_)
    | (refine wvs h rfl rfl ?_)
  clear h a w; intro a w h
  first
    | (refine wvg h (r_bin h rfl rfl (B.neq_int)) rfl rfl ?_)
    | (refine wvs h rfl rfl ?_)
  clear h a w; intro a w h
  first
    | (refine wv h (r_pick_true h rfl rfl) rfl ?_)
    | (refine wv h (r_pick_false h rfl rfl) rfl ?_)
    | (refine wv h (r_pick h rfl rfl rfl) rfl ?_)
  clear h a w; intro a w h
  refine wnil (c_then ?_)
  refine c_true h rfl ?_
  refine c_seq (c_region ?_)
  refine wv h (r_assign h rfl) rfl ?_
  clear h a w; intro a w h
  refine wnil (c_then ?_)
  refine c_ret ?_
  exact ret1 h rfl rfl ⟨(), rfl, h.2, trivial⟩
theorem eye_raw_nil (s w : World) (m : Int) (F : List HItem) (hs : Sat s w F) :
    Calls P n_digit_Eye_Raw #[.pointer none, .int .i64 m] w (Ret s (fun _ : Unit => .slice none 0 0) (fun _ => F) (fun _ => True)) := by
  refine enter K.fn_digit_Eye_Raw rfl K.nt_digit_Eye_Raw rfl hs ?_
  clear hs w; intro a w h
  refine c_seq (c_region ?_)
  refine wv h (r_assign h rfl) rfl ?_
  clear h a w; intro a w h
  refine wnil (c_then ?_)
  refine c_seq ?_
  refine c_seq (c_region ?_)
  refine wv h (r_move h rfl) rfl ?_
  clear h a w; intro a w h
  refine wv h (r_ptreq_nil h K.u_p_digit_Eye rfl rfl) rfl ?_
  clear h a w; intro a w h
  refine wv h (r_move h rfl) rfl ?_
  clear h a w; intro a w h
  first
    | (refine wvg h (r_move h rfl) rfl rfl ?_)
    | (refine wvs h rfl rfl ?_)
  clear h a w; intro a w h
  first
    | (refine wvg h (r_nilCheck h rfl) rfl rfl ?_)
    | (refine wvs h rfl rfl ?_)
  clear h a w; intro a w h
  first
    | (refine wvg h (r_fieldAddr h 1 rfl K.u_digit_Eye rfl K.sz_api_Errno rfl rfl) rfl rfl ?_)
    | (refine wvs h rfl rfl ?_)
  clear h a w; intro a w h
  first
    | (refine wvg h (r_load h rfl K.u_api_Errno rfl 0 rfl rfl) rfl rfl ?_)
    | (refine wvg h (r_load h rfl K.u_api_Errno rfl 1 rfl rfl) rfl rfl ?_)
    | (refine wvg h (r_load h rfl K.u_api_Errno rfl 2 rfl rfl) rfl rfl ?_)
    | (refine wvg h (r_load h rfl K.u_api_Errno rfl 3 rfl rfl) rfl rfl ?_)
    | (refine wvg h (r_load h rfl K.u_api_Errno rfl 4 rfl rfl) rfl rfl ?_)
    | (refine wvg h (r_load h rfl K.u_api_Errno rfl 5 rfl rfl) rfl rfl ?_)
    | (refine wvg h (r_load1 h rfl K.u_api_Errno rfl (by assumption)) rfl rfl ?_)
    | (refine wvs h rfl rfl ?_)
  clear h a w; intro a w h
  first
    | (refine wvg h (r_bin h rfl rfl (B.neq_int)) rfl rfl ?_)
    | (refine wvs h rfl rfl ?_)
  clear h a w; intro a w h
  first
    | (refine wv h (r_pick_true h rfl rfl) rfl ?_)
    | (refine wv h (r_pick_false h rfl rfl) rfl ?_)
    | (refine wv h (r_pick h rfl rfl rfl) rfl ?_)
  clear h a w; intro a w h
  refine wv h (r_move h rfl) rfl ?_
  clear h a w; intro a w h
  first
    | (refine wvg h (r_move h rfl) rfl rfl ?_)
    | (refine wvs h rfl rfl ?_)
  clear h a w; intro a w h
  first
    | (refine wvg h (r_bin h rfl rfl (B.leq_int)) rfl rfl ?_)
    | (refine wvs h rfl rfl ?_)
  clear h a w; intro a w h
  first
    | (refine wv h (r_pick_true h rfl rfl) rfl ?_)
    | (refine wv h (r_pick_false h rfl rfl) rfl ?_)
    | (refine wv h (r_pick h rfl rfl rfl) rfl ?_)
  clear h a w; intro a w h
  refine wnil (c_then ?_)
  refine c_true h rfl ?_
  refine c_seq (c_region ?_)
  refine wv h (r_assign h rfl) rfl ?_
  clear h a w; intro a w h
  refine wnil (c_then ?_)
  refine c_ret ?_
  exact ret1 h rfl rfl ⟨(), rfl, h.2, trivial⟩
theorem eye_text_nil (s w : World) (most : Int) (F : List HItem) (hs : Sat s w F) :
    Calls P n_digit_Eye_Text #[.pointer none, .int .i64 most] w (Ret s (fun _ : Unit => sv []) (fun _ => F) (fun _ => True)) := by
  refine enter K.fn_digit_Eye_Text rfl K.nt_digit_Eye_Text rfl hs ?_
  clear hs w; intro a w h
  refine c_seq (c_region ?_)
  refine wv h (r_assign h rfl) rfl ?_
  clear h a w; intro a w h
  refine wnil (c_then ?_)
  refine c_seq (c_region ?_)
  refine wv h (r_move h rfl) rfl ?_
  clear h a w; intro a w h
  refine wv h (r_move h rfl) rfl ?_
  clear h a w; intro a w h
  refine wl rfl (op_call h rfl K.go_digit_Eye_Num (eye_num_nil s _ most F h.2) rfl ?_)
  clear h a w; intro x a w hx h
  refine wv h (r_assign h rfl) rfl ?_
  clear h a w; intro a w h
  refine wnil (c_then ?_)
  refine c_seq (c_region ?_)
  refine wv h (r_move h rfl) rfl ?_
  clear h a w; intro a w h
  refine wv h (r_move h rfl) rfl ?_
  clear h a w; intro a w h
  refine wl rfl (op_call h rfl K.go_digit_Eye_Raw (eye_raw_nil s _ _ F h.2) rfl ?_)
  clear h a w; intro x a w hx h
  refine wv h (r_b2sb h rfl K.u_S_uint8 K.u_uint8 K.u_string (ViewsB.nil _)) rfl ?_
  clear h a w; intro a w h
  refine wv h (r_assign h rfl) rfl ?_
  clear h a w; intro a w h
  refine wnil (c_then ?_)
  refine c_ret ?_
  exact ret1 h rfl rfl ⟨(), rfl, h.2, trivial⟩

theorem digitSizes (s w : World) (k : UInt8) (F : List HItem) (hs : Sat s w F) :
    Calls P n_law01_DigitSizes #[bv k] w (Ret s (fun _ : Unit => .bool true) (fun _ => F) (fun _ => True)) := by
  obtain ⟨j, hj, hj8⟩ : ∃ j : Nat, (k % 8).toNat = j ∧ j < 8 := ⟨_, rfl, by rw [UInt8.toNat_mod]; exact Nat.mod_lt _ (by decide)⟩
  have hp : (2 : Nat) ^ (7 * (j + 1)) ≤ 2 ^ 56 := Nat.pow_le_pow_right (by omega) (by omega)
  have hp1 : (1 : Nat) ≤ 2 ^ (7 * (j + 1)) := Nat.one_le_two_pow
  have hpi : (1 : Int) * 2 ^ (7 * ((j : Int) + 1)).toNat = ((2 ^ (7 * (j + 1)) : Nat) : Int) := by
    rw [show (7 * ((j : Int) + 1)).toNat = 7 * (j + 1) by omega]; simp
  have h128 : (2 : Nat) ^ (7 * (j + 1)) = 128 ^ (j + 1) := by rw [Nat.pow_mul]
  have hdig : ∀ i : Nat, (numN (128 ^ i - 1)).length = max i 1 ∧ (numN (128 ^ i)).length = i + 1 := by
    intro i
    induction i with
    | zero => constructor <;> (rw [numN, dif_pos (by simp)]; rfl)
    | succ i ih =>
      have hq : 1 ≤ 128 ^ i := Nat.one_le_pow _ _ (by omega)
      constructor
      · rw [Nat.pow_succ]
        by_cases h0 : i = 0
        · subst h0; rw [numN, dif_pos (by simp)]; rfl
        · have h1 : 128 ≤ 128 ^ i := by
            have := Nat.pow_le_pow_right (n := 128) (by omega) (show 1 ≤ i by omega)
            simpa using this
          rw [numN, dif_neg (by omega), List.length_cons, show (128 ^ i * 128 - 1) / 128 = 128 ^ i - 1 by omega, ih.1]; omega
      · rw [Nat.pow_succ, numN, dif_neg (by omega), List.length_cons, show (128 ^ i * 128) / 128 = 128 ^ i by omega, ih.2]
  refine enter K.fn_law01_DigitSizes rfl K.nt_law01_DigitSizes rfl hs ?_
  clear hs w; intro a w h
  refine c_seq (c_region ?_)
  refine wv h (r_assign h rfl) rfl ?_
  clear h a w; intro a w h
  refine wnil (c_then ?_)
  refine c_seq (c_region ?_)
  refine wv h (r_move h rfl) rfl ?_
  clear h a w; intro a w h
  refine wv h (r_bin h rfl rfl (B.rem_u8 (y := 8) (by decide))) rfl ?_
  clear h a w; intro a w h
  refine wv h (r_conv h rfl K.u_uint8 K.u_int (C.i64_u8) ) rfl ?_
  clear h a w; intro a w h
  rw [hj] at h
  refine wv h (r_bin h rfl rfl (B.add_i64 (by omega) (by omega))) rfl ?_
  clear h a w; intro a w h
  refine wv h (r_bin h rfl rfl (B.mul_i64 (by omega) (by omega))) rfl ?_
  clear h a w; intro a w h
  refine wv h (r_bin h rfl rfl (B.shl_i64 (by omega) (by omega) (by rw [hpi]; omega) (by rw [hpi]; omega))) rfl ?_
  clear h a w; intro a w h
  rw [hpi] at h
  generalize hm : 2 ^ (7 * (j + 1)) = m at h hp hp1 h128
  refine wv h (r_assign h rfl) rfl ?_
  clear h a w; intro a w h
  refine wnil (c_then ?_)
  refine c_seq (c_region ?_)
  refine wv h (r_build h K.u_digit_Pen K.z_digit_Pen K.pl_digit_Pen rfl rfl) rfl ?_
  clear h a w; intro a w h
  refine wl rfl (op_box h rfl rfl ?_)
  clear h a w; intro ba a w h
  refine wv h (r_assign h rfl) rfl ?_
  clear h a w; intro a w h
  replace h := (h.addNilb).front 1 rfl
  refine wnil (c_then ?_)
  refine c_seq (c_region ?_)
  refine wv h (r_build h K.u_digit_Pen K.z_digit_Pen K.pl_digit_Pen rfl rfl) rfl ?_
  clear h a w; intro a w h
  refine wl rfl (op_box h rfl rfl ?_)
  clear h a w; intro bb a w h
  refine wv h (r_assign h rfl) rfl ?_
  clear h a w; intro a w h
  replace h := (h.addNilb).front 1 rfl
  refine wnil (c_then ?_)
  refine c_seq (c_region ?_)
  refine wv h (r_build h K.u_digit_Pen K.z_digit_Pen K.pl_digit_Pen rfl rfl) rfl ?_
  clear h a w; intro a w h
  refine wl rfl (op_box h rfl rfl ?_)
  clear h a w; intro bc a w h
  refine wv h (r_assign h rfl) rfl ?_
  clear h a w; intro a w h
  replace h := (h.addNilb).front 1 rfl
  refine wnil (c_then ?_)
  refine c_seq (c_region ?_)
  refine wv h (r_move h rfl) rfl ?_
  clear h a w; intro a w h
  refine wv h (r_move h rfl) rfl ?_
  clear h a w; intro a w h
  refine wv h (r_bin h rfl rfl (B.sub_i64 (by omega) (by omega))) rfl ?_
  clear h a w; intro a w h
  have hm1 : (m : Int) - 1 = ((m - 1 : Nat) : Int) := by omega
  rw [hm1] at h
  replace h := (h.front 5 rfl).front 5 rfl
  refine wl rfl (op_call h rfl K.go_digit_Pen_Num (pen_num s _ ba 0 _ _ (.slice none 0 0) [] (m - 1) _ (by omega) rfl (by simp) h.2) rfl ?_)
  clear h a w; intro va a w hx h
  refine wnil (c_then ?_)
  refine c_seq (c_region ?_)
  refine wv h (r_move h rfl) rfl ?_
  clear h a w; intro a w h
  refine wv h (r_move h rfl) rfl ?_
  clear h a w; intro a w h
  replace h := (h.front 5 rfl).front 5 rfl
  refine wl rfl (op_call h rfl K.go_digit_Pen_Num (pen_num s _ bb 0 _ _ (.slice none 0 0) [] m _ (by omega) rfl (by simp) h.2) rfl ?_)
  clear h a w; intro vb a w hx h
  refine wnil (c_then ?_)
  refine c_seq (c_region ?_)
  refine wv h (r_move h rfl) rfl ?_
  clear h a w; intro a w h
  replace h := (h.front 5 rfl).front 5 rfl
  refine wl rfl (op_call h rfl K.go_digit_Pen_Num (pen_num s _ bc 0 _ _ (.slice none 0 0) [] 0 _ (by omega) rfl (by simp) h.2) rfl ?_)
  clear h a w; intro vc a w hx h
  refine wnil (c_then ?_)
  refine c_seq (c_heldL 36 K.mixed rfl h ?_)
  clear h a w; intro a w h
  refine h_only 0 rfl rfl (by kernel_rfl) ?_
  refine op_call h rfl K.go_law01_awake (awake01 s _ _ h.2) rfl ?_
  clear h a w; intro x a w hx h
  refine ⟨(by first | exact h.2 | exact h.2.drop 1 | exact h.2.drop 2 | exact h.2.drop 3 | exact h.2.drop 4 | exact h.2.drop 5 | exact h.2.drop 6), ?_⟩
  refine h_take h 1 rfl (by kernel_rfl) (by kernel_rfl) (by kernel_rfl) (fun _ _ _ hh => hh) (by first | exact h.2 | exact h.2.drop 1 | exact h.2.drop 2 | exact h.2.drop 3 | exact h.2.drop 4 | exact h.2.drop 5 | exact h.2.drop 6) (fun w hw => r_move ⟨h.1, hw⟩ rfl) rfl ?_
  clear h a w; intro a w h
  first
    | (refine h_takeg h 2 rfl (by kernel_rfl) (by kernel_rfl) (by kernel_rfl) (fun _ _ _ hh => hh) (by first | exact h.2 | exact h.2.drop 1 | exact h.2.drop 2 | exact h.2.drop 3 | exact h.2.drop 4 | exact h.2.drop 5 | exact h.2.drop 6) (fun w hw => r_move ⟨h.1, hw⟩ rfl) rfl rfl ?_)
    | (refine h_takes h 2 rfl (by kernel_rfl) (by kernel_rfl) (by kernel_rfl) (fun _ _ _ hh => hh) (by first | exact h.2 | exact h.2.drop 1 | exact h.2.drop 2 | exact h.2.drop 3 | exact h.2.drop 4 | exact h.2.drop 5 | exact h.2.drop 6) rfl rfl ?_)
  clear h a w; intro a w h
  first
    | (refine h_takeg h 3 rfl (by kernel_rfl) (by kernel_rfl) (by kernel_rfl) (fun _ _ _ hh => hh) (by first | exact h.2 | exact h.2.drop 1 | exact h.2.drop 2 | exact h.2.drop 3 | exact h.2.drop 4 | exact h.2.drop 5 | exact h.2.drop 6) (fun w hw => r_nilCheck ⟨h.1, hw⟩ rfl) rfl rfl ?_)
    | (refine h_takes h 3 rfl (by kernel_rfl) (by kernel_rfl) (by kernel_rfl) (fun _ _ _ hh => hh) (by first | exact h.2 | exact h.2.drop 1 | exact h.2.drop 2 | exact h.2.drop 3 | exact h.2.drop 4 | exact h.2.drop 5 | exact h.2.drop 6) rfl rfl ?_)
  clear h a w; intro a w h
  first
    | (refine h_takeg h 4 rfl (by kernel_rfl) (by kernel_rfl) (by kernel_rfl) (fun _ _ _ hh => hh) (by first | exact h.2 | exact h.2.drop 1 | exact h.2.drop 2 | exact h.2.drop 3 | exact h.2.drop 4 | exact h.2.drop 5 | exact h.2.drop 6) (fun w hw => r_fieldAddr0 ⟨h.1, hw⟩ rfl K.u_digit_Pen rfl K.sz_S_uint8 rfl rfl) rfl rfl ?_)
    | (refine h_takes h 4 rfl (by kernel_rfl) (by kernel_rfl) (by kernel_rfl) (fun _ _ _ hh => hh) (by first | exact h.2 | exact h.2.drop 1 | exact h.2.drop 2 | exact h.2.drop 3 | exact h.2.drop 4 | exact h.2.drop 5 | exact h.2.drop 6) rfl rfl ?_)
  clear h a w; intro a w h
  first
    | (refine h_takeg h 5 rfl (by kernel_rfl) (by kernel_rfl) (by kernel_rfl) (fun _ _ _ hh => hh) (by first | exact h.2 | exact h.2.drop 1 | exact h.2.drop 2 | exact h.2.drop 3 | exact h.2.drop 4 | exact h.2.drop 5 | exact h.2.drop 6) (fun w hw => r_load ⟨h.1, hw⟩ rfl K.u_S_uint8 rfl 0 rfl rfl) rfl rfl ?_)
    | (refine h_takeg h 5 rfl (by kernel_rfl) (by kernel_rfl) (by kernel_rfl) (fun _ _ _ hh => hh) (by first | exact h.2 | exact h.2.drop 1 | exact h.2.drop 2 | exact h.2.drop 3 | exact h.2.drop 4 | exact h.2.drop 5 | exact h.2.drop 6) (fun w hw => r_load ⟨h.1, hw⟩ rfl K.u_S_uint8 rfl 1 rfl rfl) rfl rfl ?_)
    | (refine h_takeg h 5 rfl (by kernel_rfl) (by kernel_rfl) (by kernel_rfl) (fun _ _ _ hh => hh) (by first | exact h.2 | exact h.2.drop 1 | exact h.2.drop 2 | exact h.2.drop 3 | exact h.2.drop 4 | exact h.2.drop 5 | exact h.2.drop 6) (fun w hw => r_load ⟨h.1, hw⟩ rfl K.u_S_uint8 rfl 2 rfl rfl) rfl rfl ?_)
    | (refine h_takeg h 5 rfl (by kernel_rfl) (by kernel_rfl) (by kernel_rfl) (fun _ _ _ hh => hh) (by first | exact h.2 | exact h.2.drop 1 | exact h.2.drop 2 | exact h.2.drop 3 | exact h.2.drop 4 | exact h.2.drop 5 | exact h.2.drop 6) (fun w hw => r_load ⟨h.1, hw⟩ rfl K.u_S_uint8 rfl 3 rfl rfl) rfl rfl ?_)
    | (refine h_takeg h 5 rfl (by kernel_rfl) (by kernel_rfl) (by kernel_rfl) (fun _ _ _ hh => hh) (by first | exact h.2 | exact h.2.drop 1 | exact h.2.drop 2 | exact h.2.drop 3 | exact h.2.drop 4 | exact h.2.drop 5 | exact h.2.drop 6) (fun w hw => r_load ⟨h.1, hw⟩ rfl K.u_S_uint8 rfl 4 rfl rfl) rfl rfl ?_)
    | (refine h_takeg h 5 rfl (by kernel_rfl) (by kernel_rfl) (by kernel_rfl) (fun _ _ _ hh => hh) (by first | exact h.2 | exact h.2.drop 1 | exact h.2.drop 2 | exact h.2.drop 3 | exact h.2.drop 4 | exact h.2.drop 5 | exact h.2.drop 6) (fun w hw => r_load ⟨h.1, hw⟩ rfl K.u_S_uint8 rfl 5 rfl rfl) rfl rfl ?_)
    | (refine h_takeg h 5 rfl (by kernel_rfl) (by kernel_rfl) (by kernel_rfl) (fun _ _ _ hh => hh) (by first | exact h.2 | exact h.2.drop 1 | exact h.2.drop 2 | exact h.2.drop 3 | exact h.2.drop 4 | exact h.2.drop 5 | exact h.2.drop 6) (fun w hw => r_load1 ⟨h.1, hw⟩ rfl K.u_S_uint8 rfl (by assumption)) rfl rfl ?_)
    | (refine h_takes h 5 rfl (by kernel_rfl) (by kernel_rfl) (by kernel_rfl) (fun _ _ _ hh => hh) (by first | exact h.2 | exact h.2.drop 1 | exact h.2.drop 2 | exact h.2.drop 3 | exact h.2.drop 4 | exact h.2.drop 5 | exact h.2.drop 6) rfl rfl ?_)
  clear h a w; intro a w h
  first
    | (refine h_takeg h 6 rfl (by kernel_rfl) (by kernel_rfl) (by kernel_rfl) (fun _ _ _ hh => hh) (by first | exact h.2 | exact h.2.drop 1 | exact h.2.drop 2 | exact h.2.drop 3 | exact h.2.drop 4 | exact h.2.drop 5 | exact h.2.drop 6) (fun w hw => r_lenB ⟨h.1, hw⟩ rfl K.u_S_uint8 (ViewsB.own 5 rfl)) rfl rfl ?_)
    | (refine h_takes h 6 rfl (by kernel_rfl) (by kernel_rfl) (by kernel_rfl) (fun _ _ _ hh => hh) (by first | exact h.2 | exact h.2.drop 1 | exact h.2.drop 2 | exact h.2.drop 3 | exact h.2.drop 4 | exact h.2.drop 5 | exact h.2.drop 6) rfl rfl ?_)
  clear h a w; intro a w h
  first
    | (refine h_takeg h 7 rfl (by kernel_rfl) (by kernel_rfl) (by kernel_rfl) (fun _ _ _ hh => hh) (by first | exact h.2 | exact h.2.drop 1 | exact h.2.drop 2 | exact h.2.drop 3 | exact h.2.drop 4 | exact h.2.drop 5 | exact h.2.drop 6) (fun w hw => r_move ⟨h.1, hw⟩ rfl) rfl rfl ?_)
    | (refine h_takes h 7 rfl (by kernel_rfl) (by kernel_rfl) (by kernel_rfl) (fun _ _ _ hh => hh) (by first | exact h.2 | exact h.2.drop 1 | exact h.2.drop 2 | exact h.2.drop 3 | exact h.2.drop 4 | exact h.2.drop 5 | exact h.2.drop 6) rfl rfl ?_)
  clear h a w; intro a w h
  first
    | (refine h_takeg h 8 rfl (by kernel_rfl) (by kernel_rfl) (by kernel_rfl) (fun _ _ _ hh => hh) (by first | exact h.2 | exact h.2.drop 1 | exact h.2.drop 2 | exact h.2.drop 3 | exact h.2.drop 4 | exact h.2.drop 5 | exact h.2.drop 6) (fun w hw => r_bin ⟨h.1, hw⟩ rfl rfl (B.rem_u8 (y := 8) (by decide))) rfl rfl ?_)
    | (refine h_takes h 8 rfl (by kernel_rfl) (by kernel_rfl) (by kernel_rfl) (fun _ _ _ hh => hh) (by first | exact h.2 | exact h.2.drop 1 | exact h.2.drop 2 | exact h.2.drop 3 | exact h.2.drop 4 | exact h.2.drop 5 | exact h.2.drop 6) rfl rfl ?_)
  clear h a w; intro a w h
  first
    | (refine h_takeg h 9 rfl (by kernel_rfl) (by kernel_rfl) (by kernel_rfl) (fun _ _ _ hh => hh) (by first | exact h.2 | exact h.2.drop 1 | exact h.2.drop 2 | exact h.2.drop 3 | exact h.2.drop 4 | exact h.2.drop 5 | exact h.2.drop 6) (fun w hw => r_conv ⟨h.1, hw⟩ rfl K.u_uint8 K.u_int (C.i64_u8) ) rfl rfl ?_)
    | (refine h_takes h 9 rfl (by kernel_rfl) (by kernel_rfl) (by kernel_rfl) (fun _ _ _ hh => hh) (by first | exact h.2 | exact h.2.drop 1 | exact h.2.drop 2 | exact h.2.drop 3 | exact h.2.drop 4 | exact h.2.drop 5 | exact h.2.drop 6) rfl rfl ?_)
  clear h a w; intro a w h
  rw [hj] at h
  first
    | (refine h_takeg h 10 rfl (by kernel_rfl) (by kernel_rfl) (by kernel_rfl) (fun _ _ _ hh => hh) (by first | exact h.2 | exact h.2.drop 1 | exact h.2.drop 2 | exact h.2.drop 3 | exact h.2.drop 4 | exact h.2.drop 5 | exact h.2.drop 6) (fun w hw => r_bin ⟨h.1, hw⟩ rfl rfl (B.add_i64 (by omega) (by omega))) rfl rfl ?_)
    | (refine h_takes h 10 rfl (by kernel_rfl) (by kernel_rfl) (by kernel_rfl) (fun _ _ _ hh => hh) (by first | exact h.2 | exact h.2.drop 1 | exact h.2.drop 2 | exact h.2.drop 3 | exact h.2.drop 4 | exact h.2.drop 5 | exact h.2.drop 6) rfl rfl ?_)
  clear h a w; intro a w h
  first
    | (refine h_takeg h 11 rfl (by kernel_rfl) (by kernel_rfl) (by kernel_rfl) (fun _ _ _ hh => hh) (by first | exact h.2 | exact h.2.drop 1 | exact h.2.drop 2 | exact h.2.drop 3 | exact h.2.drop 4 | exact h.2.drop 5 | exact h.2.drop 6) (fun w hw => r_bin ⟨h.1, hw⟩ rfl rfl (B.eql_int)) rfl rfl ?_)
    | (refine h_takes h 11 rfl (by kernel_rfl) (by kernel_rfl) (by kernel_rfl) (fun _ _ _ hh => hh) (by first | exact h.2 | exact h.2.drop 1 | exact h.2.drop 2 | exact h.2.drop 3 | exact h.2.drop 4 | exact h.2.drop 5 | exact h.2.drop 6) rfl rfl ?_)
  clear h a w; intro a w h
  have e1 : decide (((([] : List UInt8) ++ numN (m - 1)).length : Int) = (j : Int) + 1) = true := by
    apply decide_eq_true
    have := (hdig (j + 1)).1
    rw [List.nil_append, h128, this]; omega
  rw [e1] at h
  first
    | (refine h_take h 12 rfl (by kernel_rfl) (by kernel_rfl) (by kernel_rfl) (fun _ _ _ hh => hh) (by first | exact h.2 | exact h.2.drop 1 | exact h.2.drop 2 | exact h.2.drop 3 | exact h.2.drop 4 | exact h.2.drop 5 | exact h.2.drop 6) (fun w hw => r_pick_true ⟨h.1, hw⟩ rfl rfl) rfl ?_)
    | (refine h_take h 12 rfl (by kernel_rfl) (by kernel_rfl) (by kernel_rfl) (fun _ _ _ hh => hh) (by first | exact h.2 | exact h.2.drop 1 | exact h.2.drop 2 | exact h.2.drop 3 | exact h.2.drop 4 | exact h.2.drop 5 | exact h.2.drop 6) (fun w hw => r_pick_false ⟨h.1, hw⟩ rfl rfl) rfl ?_)
    | (refine h_take h 12 rfl (by kernel_rfl) (by kernel_rfl) (by kernel_rfl) (fun _ _ _ hh => hh) (by first | exact h.2 | exact h.2.drop 1 | exact h.2.drop 2 | exact h.2.drop 3 | exact h.2.drop 4 | exact h.2.drop 5 | exact h.2.drop 6) (fun w hw => r_pick ⟨h.1, hw⟩ rfl rfl rfl) rfl ?_)
  clear h a w; intro a w h
  refine h_take h 13 rfl (by kernel_rfl) (by kernel_rfl) (by kernel_rfl) (fun _ _ _ hh => hh) (by first | exact h.2 | exact h.2.drop 1 | exact h.2.drop 2 | exact h.2.drop 3 | exact h.2.drop 4 | exact h.2.drop 5 | exact h.2.drop 6) (fun w hw => r_move ⟨h.1, hw⟩ rfl) rfl ?_
  clear h a w; intro a w h
  first
    | (refine h_takeg h 14 rfl (by kernel_rfl) (by kernel_rfl) (by kernel_rfl) (fun _ _ _ hh => hh) (by first | exact h.2 | exact h.2.drop 1 | exact h.2.drop 2 | exact h.2.drop 3 | exact h.2.drop 4 | exact h.2.drop 5 | exact h.2.drop 6) (fun w hw => r_move ⟨h.1, hw⟩ rfl) rfl rfl ?_)
    | (refine h_takes h 14 rfl (by kernel_rfl) (by kernel_rfl) (by kernel_rfl) (fun _ _ _ hh => hh) (by first | exact h.2 | exact h.2.drop 1 | exact h.2.drop 2 | exact h.2.drop 3 | exact h.2.drop 4 | exact h.2.drop 5 | exact h.2.drop 6) rfl rfl ?_)
  clear h a w; intro a w h
  first
    | (refine h_takeg h 15 rfl (by kernel_rfl) (by kernel_rfl) (by kernel_rfl) (fun _ _ _ hh => hh) (by first | exact h.2 | exact h.2.drop 1 | exact h.2.drop 2 | exact h.2.drop 3 | exact h.2.drop 4 | exact h.2.drop 5 | exact h.2.drop 6) (fun w hw => r_nilCheck ⟨h.1, hw⟩ rfl) rfl rfl ?_)
    | (refine h_takes h 15 rfl (by kernel_rfl) (by kernel_rfl) (by kernel_rfl) (fun _ _ _ hh => hh) (by first | exact h.2 | exact h.2.drop 1 | exact h.2.drop 2 | exact h.2.drop 3 | exact h.2.drop 4 | exact h.2.drop 5 | exact h.2.drop 6) rfl rfl ?_)
  clear h a w; intro a w h
  first
    | (refine h_takeg h 16 rfl (by kernel_rfl) (by kernel_rfl) (by kernel_rfl) (fun _ _ _ hh => hh) (by first | exact h.2 | exact h.2.drop 1 | exact h.2.drop 2 | exact h.2.drop 3 | exact h.2.drop 4 | exact h.2.drop 5 | exact h.2.drop 6) (fun w hw => r_fieldAddr0 ⟨h.1, hw⟩ rfl K.u_digit_Pen rfl K.sz_S_uint8 rfl rfl) rfl rfl ?_)
    | (refine h_takes h 16 rfl (by kernel_rfl) (by kernel_rfl) (by kernel_rfl) (fun _ _ _ hh => hh) (by first | exact h.2 | exact h.2.drop 1 | exact h.2.drop 2 | exact h.2.drop 3 | exact h.2.drop 4 | exact h.2.drop 5 | exact h.2.drop 6) rfl rfl ?_)
  clear h a w; intro a w h
  first
    | (refine h_takeg h 17 rfl (by kernel_rfl) (by kernel_rfl) (by kernel_rfl) (fun _ _ _ hh => hh) (by first | exact h.2 | exact h.2.drop 1 | exact h.2.drop 2 | exact h.2.drop 3 | exact h.2.drop 4 | exact h.2.drop 5 | exact h.2.drop 6) (fun w hw => r_load ⟨h.1, hw⟩ rfl K.u_S_uint8 rfl 0 rfl rfl) rfl rfl ?_)
    | (refine h_takeg h 17 rfl (by kernel_rfl) (by kernel_rfl) (by kernel_rfl) (fun _ _ _ hh => hh) (by first | exact h.2 | exact h.2.drop 1 | exact h.2.drop 2 | exact h.2.drop 3 | exact h.2.drop 4 | exact h.2.drop 5 | exact h.2.drop 6) (fun w hw => r_load ⟨h.1, hw⟩ rfl K.u_S_uint8 rfl 1 rfl rfl) rfl rfl ?_)
    | (refine h_takeg h 17 rfl (by kernel_rfl) (by kernel_rfl) (by kernel_rfl) (fun _ _ _ hh => hh) (by first | exact h.2 | exact h.2.drop 1 | exact h.2.drop 2 | exact h.2.drop 3 | exact h.2.drop 4 | exact h.2.drop 5 | exact h.2.drop 6) (fun w hw => r_load ⟨h.1, hw⟩ rfl K.u_S_uint8 rfl 2 rfl rfl) rfl rfl ?_)
    | (refine h_takeg h 17 rfl (by kernel_rfl) (by kernel_rfl) (by kernel_rfl) (fun _ _ _ hh => hh) (by first | exact h.2 | exact h.2.drop 1 | exact h.2.drop 2 | exact h.2.drop 3 | exact h.2.drop 4 | exact h.2.drop 5 | exact h.2.drop 6) (fun w hw => r_load ⟨h.1, hw⟩ rfl K.u_S_uint8 rfl 3 rfl rfl) rfl rfl ?_)
    | (refine h_takeg h 17 rfl (by kernel_rfl) (by kernel_rfl) (by kernel_rfl) (fun _ _ _ hh => hh) (by first | exact h.2 | exact h.2.drop 1 | exact h.2.drop 2 | exact h.2.drop 3 | exact h.2.drop 4 | exact h.2.drop 5 | exact h.2.drop 6) (fun w hw => r_load ⟨h.1, hw⟩ rfl K.u_S_uint8 rfl 4 rfl rfl) rfl rfl ?_)
    | (refine h_takeg h 17 rfl (by kernel_rfl) (by kernel_rfl) (by kernel_rfl) (fun _ _ _ hh => hh) (by first | exact h.2 | exact h.2.drop 1 | exact h.2.drop 2 | exact h.2.drop 3 | exact h.2.drop 4 | exact h.2.drop 5 | exact h.2.drop 6) (fun w hw => r_load ⟨h.1, hw⟩ rfl K.u_S_uint8 rfl 5 rfl rfl) rfl rfl ?_)
    | (refine h_takeg h 17 rfl (by kernel_rfl) (by kernel_rfl) (by kernel_rfl) (fun _ _ _ hh => hh) (by first | exact h.2 | exact h.2.drop 1 | exact h.2.drop 2 | exact h.2.drop 3 | exact h.2.drop 4 | exact h.2.drop 5 | exact h.2.drop 6) (fun w hw => r_load1 ⟨h.1, hw⟩ rfl K.u_S_uint8 rfl (by assumption)) rfl rfl ?_)
    | (refine h_takes h 17 rfl (by kernel_rfl) (by kernel_rfl) (by kernel_rfl) (fun _ _ _ hh => hh) (by first | exact h.2 | exact h.2.drop 1 | exact h.2.drop 2 | exact h.2.drop 3 | exact h.2.drop 4 | exact h.2.drop 5 | exact h.2.drop 6) rfl rfl ?_)
  clear h a w; intro a w h
  first
    | (refine h_takeg h 18 rfl (by kernel_rfl) (by kernel_rfl) (by kernel_rfl) (fun _ _ _ hh => hh) (by first | exact h.2 | exact h.2.drop 1 | exact h.2.drop 2 | exact h.2.drop 3 | exact h.2.drop 4 | exact h.2.drop 5 | exact h.2.drop 6) (fun w hw => r_lenB ⟨h.1, hw⟩ rfl K.u_S_uint8 (ViewsB.own 3 rfl)) rfl rfl ?_)
    | (refine h_takes h 18 rfl (by kernel_rfl) (by kernel_rfl) (by kernel_rfl) (fun _ _ _ hh => hh) (by first | exact h.2 | exact h.2.drop 1 | exact h.2.drop 2 | exact h.2.drop 3 | exact h.2.drop 4 | exact h.2.drop 5 | exact h.2.drop 6) rfl rfl ?_)
  clear h a w; intro a w h
  first
    | (refine h_takeg h 19 rfl (by kernel_rfl) (by kernel_rfl) (by kernel_rfl) (fun _ _ _ hh => hh) (by first | exact h.2 | exact h.2.drop 1 | exact h.2.drop 2 | exact h.2.drop 3 | exact h.2.drop 4 | exact h.2.drop 5 | exact h.2.drop 6) (fun w hw => r_move ⟨h.1, hw⟩ rfl) rfl rfl ?_)
    | (refine h_takes h 19 rfl (by kernel_rfl) (by kernel_rfl) (by kernel_rfl) (fun _ _ _ hh => hh) (by first | exact h.2 | exact h.2.drop 1 | exact h.2.drop 2 | exact h.2.drop 3 | exact h.2.drop 4 | exact h.2.drop 5 | exact h.2.drop 6) rfl rfl ?_)
  clear h a w; intro a w h
  first
    | (refine h_takeg h 20 rfl (by kernel_rfl) (by kernel_rfl) (by kernel_rfl) (fun _ _ _ hh => hh) (by first | exact h.2 | exact h.2.drop 1 | exact h.2.drop 2 | exact h.2.drop 3 | exact h.2.drop 4 | exact h.2.drop 5 | exact h.2.drop 6) (fun w hw => r_bin ⟨h.1, hw⟩ rfl rfl (B.rem_u8 (y := 8) (by decide))) rfl rfl ?_)
    | (refine h_takes h 20 rfl (by kernel_rfl) (by kernel_rfl) (by kernel_rfl) (fun _ _ _ hh => hh) (by first | exact h.2 | exact h.2.drop 1 | exact h.2.drop 2 | exact h.2.drop 3 | exact h.2.drop 4 | exact h.2.drop 5 | exact h.2.drop 6) rfl rfl ?_)
  clear h a w; intro a w h
  first
    | (refine h_takeg h 21 rfl (by kernel_rfl) (by kernel_rfl) (by kernel_rfl) (fun _ _ _ hh => hh) (by first | exact h.2 | exact h.2.drop 1 | exact h.2.drop 2 | exact h.2.drop 3 | exact h.2.drop 4 | exact h.2.drop 5 | exact h.2.drop 6) (fun w hw => r_conv ⟨h.1, hw⟩ rfl K.u_uint8 K.u_int (C.i64_u8) ) rfl rfl ?_)
    | (refine h_takes h 21 rfl (by kernel_rfl) (by kernel_rfl) (by kernel_rfl) (fun _ _ _ hh => hh) (by first | exact h.2 | exact h.2.drop 1 | exact h.2.drop 2 | exact h.2.drop 3 | exact h.2.drop 4 | exact h.2.drop 5 | exact h.2.drop 6) rfl rfl ?_)
  clear h a w; intro a w h
  rw [hj] at h
  first
    | (refine h_takeg h 22 rfl (by kernel_rfl) (by kernel_rfl) (by kernel_rfl) (fun _ _ _ hh => hh) (by first | exact h.2 | exact h.2.drop 1 | exact h.2.drop 2 | exact h.2.drop 3 | exact h.2.drop 4 | exact h.2.drop 5 | exact h.2.drop 6) (fun w hw => r_bin ⟨h.1, hw⟩ rfl rfl (B.add_i64 (by omega) (by omega))) rfl rfl ?_)
    | (refine h_takes h 22 rfl (by kernel_rfl) (by kernel_rfl) (by kernel_rfl) (fun _ _ _ hh => hh) (by first | exact h.2 | exact h.2.drop 1 | exact h.2.drop 2 | exact h.2.drop 3 | exact h.2.drop 4 | exact h.2.drop 5 | exact h.2.drop 6) rfl rfl ?_)
  clear h a w; intro a w h
  first
    | (refine h_takeg h 23 rfl (by kernel_rfl) (by kernel_rfl) (by kernel_rfl) (fun _ _ _ hh => hh) (by first | exact h.2 | exact h.2.drop 1 | exact h.2.drop 2 | exact h.2.drop 3 | exact h.2.drop 4 | exact h.2.drop 5 | exact h.2.drop 6) (fun w hw => r_bin ⟨h.1, hw⟩ rfl rfl (B.eql_int)) rfl rfl ?_)
    | (refine h_takes h 23 rfl (by kernel_rfl) (by kernel_rfl) (by kernel_rfl) (fun _ _ _ hh => hh) (by first | exact h.2 | exact h.2.drop 1 | exact h.2.drop 2 | exact h.2.drop 3 | exact h.2.drop 4 | exact h.2.drop 5 | exact h.2.drop 6) rfl rfl ?_)
  clear h a w; intro a w h
  have e1 : decide (((([] : List UInt8) ++ numN m).length : Int) = (j : Int) + 2) = true := by
    apply decide_eq_true
    have := (hdig (j + 1)).2
    rw [List.nil_append, h128, this]; omega
  rw [e1] at h
  first
    | (refine h_take h 24 rfl (by kernel_rfl) (by kernel_rfl) (by kernel_rfl) (fun _ _ _ hh => hh) (by first | exact h.2 | exact h.2.drop 1 | exact h.2.drop 2 | exact h.2.drop 3 | exact h.2.drop 4 | exact h.2.drop 5 | exact h.2.drop 6) (fun w hw => r_pick_true ⟨h.1, hw⟩ rfl rfl) rfl ?_)
    | (refine h_take h 24 rfl (by kernel_rfl) (by kernel_rfl) (by kernel_rfl) (fun _ _ _ hh => hh) (by first | exact h.2 | exact h.2.drop 1 | exact h.2.drop 2 | exact h.2.drop 3 | exact h.2.drop 4 | exact h.2.drop 5 | exact h.2.drop 6) (fun w hw => r_pick_false ⟨h.1, hw⟩ rfl rfl) rfl ?_)
    | (refine h_take h 24 rfl (by kernel_rfl) (by kernel_rfl) (by kernel_rfl) (fun _ _ _ hh => hh) (by first | exact h.2 | exact h.2.drop 1 | exact h.2.drop 2 | exact h.2.drop 3 | exact h.2.drop 4 | exact h.2.drop 5 | exact h.2.drop 6) (fun w hw => r_pick ⟨h.1, hw⟩ rfl rfl rfl) rfl ?_)
  clear h a w; intro a w h
  refine h_take h 25 rfl (by kernel_rfl) (by kernel_rfl) (by kernel_rfl) (fun _ _ _ hh => hh) (by first | exact h.2 | exact h.2.drop 1 | exact h.2.drop 2 | exact h.2.drop 3 | exact h.2.drop 4 | exact h.2.drop 5 | exact h.2.drop 6) (fun w hw => r_move ⟨h.1, hw⟩ rfl) rfl ?_
  clear h a w; intro a w h
  first
    | (refine h_takeg h 26 rfl (by kernel_rfl) (by kernel_rfl) (by kernel_rfl) (fun _ _ _ hh => hh) (by first | exact h.2 | exact h.2.drop 1 | exact h.2.drop 2 | exact h.2.drop 3 | exact h.2.drop 4 | exact h.2.drop 5 | exact h.2.drop 6) (fun w hw => r_move ⟨h.1, hw⟩ rfl) rfl rfl ?_)
    | (refine h_takes h 26 rfl (by kernel_rfl) (by kernel_rfl) (by kernel_rfl) (fun _ _ _ hh => hh) (by first | exact h.2 | exact h.2.drop 1 | exact h.2.drop 2 | exact h.2.drop 3 | exact h.2.drop 4 | exact h.2.drop 5 | exact h.2.drop 6) rfl rfl ?_)
  clear h a w; intro a w h
  first
    | (refine h_takeg h 27 rfl (by kernel_rfl) (by kernel_rfl) (by kernel_rfl) (fun _ _ _ hh => hh) (by first | exact h.2 | exact h.2.drop 1 | exact h.2.drop 2 | exact h.2.drop 3 | exact h.2.drop 4 | exact h.2.drop 5 | exact h.2.drop 6) (fun w hw => r_nilCheck ⟨h.1, hw⟩ rfl) rfl rfl ?_)
    | (refine h_takes h 27 rfl (by kernel_rfl) (by kernel_rfl) (by kernel_rfl) (fun _ _ _ hh => hh) (by first | exact h.2 | exact h.2.drop 1 | exact h.2.drop 2 | exact h.2.drop 3 | exact h.2.drop 4 | exact h.2.drop 5 | exact h.2.drop 6) rfl rfl ?_)
  clear h a w; intro a w h
  first
    | (refine h_takeg h 28 rfl (by kernel_rfl) (by kernel_rfl) (by kernel_rfl) (fun _ _ _ hh => hh) (by first | exact h.2 | exact h.2.drop 1 | exact h.2.drop 2 | exact h.2.drop 3 | exact h.2.drop 4 | exact h.2.drop 5 | exact h.2.drop 6) (fun w hw => r_fieldAddr0 ⟨h.1, hw⟩ rfl K.u_digit_Pen rfl K.sz_S_uint8 rfl rfl) rfl rfl ?_)
    | (refine h_takes h 28 rfl (by kernel_rfl) (by kernel_rfl) (by kernel_rfl) (fun _ _ _ hh => hh) (by first | exact h.2 | exact h.2.drop 1 | exact h.2.drop 2 | exact h.2.drop 3 | exact h.2.drop 4 | exact h.2.drop 5 | exact h.2.drop 6) rfl rfl ?_)
  clear h a w; intro a w h
  first
    | (refine h_takeg h 29 rfl (by kernel_rfl) (by kernel_rfl) (by kernel_rfl) (fun _ _ _ hh => hh) (by first | exact h.2 | exact h.2.drop 1 | exact h.2.drop 2 | exact h.2.drop 3 | exact h.2.drop 4 | exact h.2.drop 5 | exact h.2.drop 6) (fun w hw => r_load ⟨h.1, hw⟩ rfl K.u_S_uint8 rfl 0 rfl rfl) rfl rfl ?_)
    | (refine h_takeg h 29 rfl (by kernel_rfl) (by kernel_rfl) (by kernel_rfl) (fun _ _ _ hh => hh) (by first | exact h.2 | exact h.2.drop 1 | exact h.2.drop 2 | exact h.2.drop 3 | exact h.2.drop 4 | exact h.2.drop 5 | exact h.2.drop 6) (fun w hw => r_load ⟨h.1, hw⟩ rfl K.u_S_uint8 rfl 1 rfl rfl) rfl rfl ?_)
    | (refine h_takeg h 29 rfl (by kernel_rfl) (by kernel_rfl) (by kernel_rfl) (fun _ _ _ hh => hh) (by first | exact h.2 | exact h.2.drop 1 | exact h.2.drop 2 | exact h.2.drop 3 | exact h.2.drop 4 | exact h.2.drop 5 | exact h.2.drop 6) (fun w hw => r_load ⟨h.1, hw⟩ rfl K.u_S_uint8 rfl 2 rfl rfl) rfl rfl ?_)
    | (refine h_takeg h 29 rfl (by kernel_rfl) (by kernel_rfl) (by kernel_rfl) (fun _ _ _ hh => hh) (by first | exact h.2 | exact h.2.drop 1 | exact h.2.drop 2 | exact h.2.drop 3 | exact h.2.drop 4 | exact h.2.drop 5 | exact h.2.drop 6) (fun w hw => r_load ⟨h.1, hw⟩ rfl K.u_S_uint8 rfl 3 rfl rfl) rfl rfl ?_)
    | (refine h_takeg h 29 rfl (by kernel_rfl) (by kernel_rfl) (by kernel_rfl) (fun _ _ _ hh => hh) (by first | exact h.2 | exact h.2.drop 1 | exact h.2.drop 2 | exact h.2.drop 3 | exact h.2.drop 4 | exact h.2.drop 5 | exact h.2.drop 6) (fun w hw => r_load ⟨h.1, hw⟩ rfl K.u_S_uint8 rfl 4 rfl rfl) rfl rfl ?_)
    | (refine h_takeg h 29 rfl (by kernel_rfl) (by kernel_rfl) (by kernel_rfl) (fun _ _ _ hh => hh) (by first | exact h.2 | exact h.2.drop 1 | exact h.2.drop 2 | exact h.2.drop 3 | exact h.2.drop 4 | exact h.2.drop 5 | exact h.2.drop 6) (fun w hw => r_load ⟨h.1, hw⟩ rfl K.u_S_uint8 rfl 5 rfl rfl) rfl rfl ?_)
    | (refine h_takeg h 29 rfl (by kernel_rfl) (by kernel_rfl) (by kernel_rfl) (fun _ _ _ hh => hh) (by first | exact h.2 | exact h.2.drop 1 | exact h.2.drop 2 | exact h.2.drop 3 | exact h.2.drop 4 | exact h.2.drop 5 | exact h.2.drop 6) (fun w hw => r_load1 ⟨h.1, hw⟩ rfl K.u_S_uint8 rfl (by assumption)) rfl rfl ?_)
    | (refine h_takes h 29 rfl (by kernel_rfl) (by kernel_rfl) (by kernel_rfl) (fun _ _ _ hh => hh) (by first | exact h.2 | exact h.2.drop 1 | exact h.2.drop 2 | exact h.2.drop 3 | exact h.2.drop 4 | exact h.2.drop 5 | exact h.2.drop 6) rfl rfl ?_)
  clear h a w; intro a w h
  first
    | (refine h_takeg h 30 rfl (by kernel_rfl) (by kernel_rfl) (by kernel_rfl) (fun _ _ _ hh => hh) (by first | exact h.2 | exact h.2.drop 1 | exact h.2.drop 2 | exact h.2.drop 3 | exact h.2.drop 4 | exact h.2.drop 5 | exact h.2.drop 6) (fun w hw => r_b2sb ⟨h.1, hw⟩ rfl K.u_S_uint8 K.u_uint8 K.u_string (ViewsB.own 1 rfl)) rfl rfl ?_)
    | (refine h_takes h 30 rfl (by kernel_rfl) (by kernel_rfl) (by kernel_rfl) (fun _ _ _ hh => hh) (by first | exact h.2 | exact h.2.drop 1 | exact h.2.drop 2 | exact h.2.drop 3 | exact h.2.drop 4 | exact h.2.drop 5 | exact h.2.drop 6) rfl rfl ?_)
  clear h a w; intro a w h
  refine h_onlyg h 31 rfl rfl rfl (by kernel_rfl) ?_
  refine op_call h rfl K.go_ref01_Num (ref_num s _ 0 _ (by omega) h.2) rfl ?_
  clear h a w; intro vr a w hx h
  refine ⟨(by first | exact h.2 | exact h.2.drop 1 | exact h.2.drop 2 | exact h.2.drop 3 | exact h.2.drop 4 | exact h.2.drop 5 | exact h.2.drop 6), ?_⟩
  refine h_onlyg h 32 rfl rfl rfl (by kernel_rfl) ?_
  refine op_run h (r_b2sb h rfl K.u_S_uint8 K.u_uint8 K.u_string (ViewsB.own 0 rfl)) rfl h.2 ?_
  clear h a w; intro a w h
  refine ⟨(by first | exact h.2 | exact h.2.drop 1 | exact h.2.drop 2 | exact h.2.drop 3 | exact h.2.drop 4 | exact h.2.drop 5 | exact h.2.drop 6), ?_⟩
  first
    | (refine h_takeg h 33 rfl (by kernel_rfl) (by kernel_rfl) (by kernel_rfl) (fun _ _ _ hh => hh) (by first | exact h.2 | exact h.2.drop 1 | exact h.2.drop 2 | exact h.2.drop 3 | exact h.2.drop 4 | exact h.2.drop 5 | exact h.2.drop 6) (fun w hw => r_streq ⟨h.1, hw⟩ rfl rfl) rfl rfl ?_)
    | (refine h_takes h 33 rfl (by kernel_rfl) (by kernel_rfl) (by kernel_rfl) (fun _ _ _ hh => hh) (by first | exact h.2 | exact h.2.drop 1 | exact h.2.drop 2 | exact h.2.drop 3 | exact h.2.drop 4 | exact h.2.drop 5 | exact h.2.drop 6) rfl rfl ?_)
  clear h a w; intro a w h
  have e1 : decide ((([] : List UInt8) ++ numN 0) = numN 0) = true := by simp
  rw [e1] at h
  first
    | (refine h_take h 34 rfl (by kernel_rfl) (by kernel_rfl) (by kernel_rfl) (fun _ _ _ hh => hh) (by first | exact h.2 | exact h.2.drop 1 | exact h.2.drop 2 | exact h.2.drop 3 | exact h.2.drop 4 | exact h.2.drop 5 | exact h.2.drop 6) (fun w hw => r_pick_true ⟨h.1, hw⟩ rfl rfl) rfl ?_)
    | (refine h_take h 34 rfl (by kernel_rfl) (by kernel_rfl) (by kernel_rfl) (fun _ _ _ hh => hh) (by first | exact h.2 | exact h.2.drop 1 | exact h.2.drop 2 | exact h.2.drop 3 | exact h.2.drop 4 | exact h.2.drop 5 | exact h.2.drop 6) (fun w hw => r_pick_false ⟨h.1, hw⟩ rfl rfl) rfl ?_)
    | (refine h_take h 34 rfl (by kernel_rfl) (by kernel_rfl) (by kernel_rfl) (fun _ _ _ hh => hh) (by first | exact h.2 | exact h.2.drop 1 | exact h.2.drop 2 | exact h.2.drop 3 | exact h.2.drop 4 | exact h.2.drop 5 | exact h.2.drop 6) (fun w hw => r_pick ⟨h.1, hw⟩ rfl rfl rfl) rfl ?_)
  clear h a w; intro a w h
  refine h_take h 35 rfl (by kernel_rfl) (by kernel_rfl) (by kernel_rfl) (fun _ _ _ hh => hh) (by first | exact h.2 | exact h.2.drop 1 | exact h.2.drop 2 | exact h.2.drop 3 | exact h.2.drop 4 | exact h.2.drop 5 | exact h.2.drop 6) (fun w hw => r_assign ⟨h.1, hw⟩ rfl) rfl ?_
  clear h a w; intro a w h
  refine h_done (by kernel_rfl) ?_
  refine c_then ?_
  refine c_ret ?_
  exact ret1 h rfl rfl ⟨(), rfl, h.2.drop 7, trivial⟩
end Go.Proofs.K
