/- The law on so many bytes as they stand, and the one on numbers cut off: their walks. -/
import Derived.Test.YthaibfmnpcpkfaaLaw01
set_option linter.unusedVariables false
set_option linter.unusedSimpArgs false
set_option maxRecDepth 10000
namespace Go.Proofs.K
open Go.Sl

theorem digitRaws (s w : World) (v : Value) (l : List UInt8) (n : Int) (lo : -9223372036854775808 ≤ n) (hi : n ≤ 9223372036854775807) (F : List HItem) (hv : ViewsB F v l) (hs : Sat s w F) :
    Calls P n_law01_DigitRaws #[v, .int .i64 n] w (Ret s (fun _ : Unit => .bool true) (fun _ => F) (fun _ => True)) := by
  refine enter K.fn_law01_DigitRaws rfl K.nt_law01_DigitRaws rfl hs ?_
  clear hs w; intro a w h
  refine c_seq (c_region ?_)
  refine wv h (r_assign h rfl) rfl ?_
  clear h a w; intro a w h
  refine wnil (c_then ?_)
  refine c_seq ?_
  refine c_seq (c_region ?_)
  refine wl rfl (op_call h rfl K.go_law01_awake (awake01 s _ _ h.2) rfl ?_)
  clear h a w; intro x a w hx h
  refine wv h (r_not h rfl) rfl ?_
  clear h a w; intro a w h
  refine wv h (r_move h rfl) rfl ?_
  clear h a w; intro a w h
  first
    | (refine wvg h (r_move h rfl) rfl rfl ?_)
    | (refine wvs h rfl rfl ?_)
  clear h a w; intro a w h
  refine wvg h (r_lenB h rfl K.u_S_uint8 hv) rfl rfl ?_
  clear h a w; intro a w h
  first
    | (refine wvg h (r_bin h rfl rfl (B.gtr_int)) rfl rfl ?_)
    | (refine wvs h rfl rfl ?_)
  clear h a w; intro a w h
  first
    | (refine wv h (r_pick_true h rfl rfl) rfl ?_)
    | (refine wv h (r_pick_false h rfl rfl) rfl ?_)
    | (refine wv h (r_pick h rfl rfl rfl) rfl ?_)
  clear h a w; intro a w h
  refine wnil (c_then ?_)
  refine c_condD h rfl (fun ht1 => ?_) (fun ht1 => ?_)
  ·
    refine c_seq (c_region ?_)
    refine wl rfl (op_call h rfl K.go_law01_awake (awake01 s _ _ h.2) rfl ?_)
    clear h a w; intro x a w hx h
    refine wv h (r_assign h rfl) rfl ?_
    clear h a w; intro a w h
    refine wnil (c_then ?_)
    refine c_ret ?_
    exact ret1 h rfl rfl ⟨(), rfl, h.2, trivial⟩
  ·
    refine c_skip ?_
    refine c_then ?_
    refine c_seq (c_region ?_)
    refine wv h (r_move h rfl) rfl ?_
    clear h a w; intro a w h
    refine wl rfl (op_call h rfl K.go_digit_NewEye (new_eye s _ v l F (by omega) hv h.2) rfl ?_)
    clear h a w; intro x a w hx h
    obtain ⟨b, pv⟩ := x
    refine wv h (r_assign h rfl) rfl ?_
    clear h a w; intro a w h
    refine wnil (c_then ?_)
    refine c_seq (c_region ?_)
    refine wv h (r_move h rfl) rfl ?_
    clear h a w; intro a w h
    refine wv h (r_move h rfl) rfl ?_
    clear h a w; intro a w h
    refine wl rfl (op_call h rfl K.go_digit_Eye_Raw (eye_raw s _ b _ pv l 0 n F (by omega) h.2) rfl ?_)
    clear h a w; intro x a w hx h
    obtain ⟨pv2, q⟩ := x
    replace h := h.front 1 rfl
    refine wv h (r_assign h rfl) rfl ?_
    clear h a w; intro a w h
    refine wnil (c_then ?_)
    refine c_seq ?_
    refine c_seq (c_region ?_)
    refine wv h (r_move h rfl) rfl ?_
    clear h a w; intro a w h
    refine wv h (r_move h rfl) rfl ?_
    clear h a w; intro a w h
    refine wv h (r_lenB h rfl K.u_S_uint8 (((hv.cons _).cons _).cons _)) rfl ?_
    clear h a w; intro a w h
    refine wv h (r_bin h rfl rfl (B.gtr_int)) rfl ?_
    clear h a w; intro a w h
    refine wnil (c_then ?_)
    refine c_condD h rfl (fun ht2 => ?_) (fun ht2 => ?_)
    ·
      have hr : eyeRaw (0, l) n = ([], (6, [])) := by
        simp only [eyeRaw]
        rw [if_neg (by rintro (hh | hh); exact hh rfl; omega), if_pos (by omega)]
      rw [hr] at h
      refine c_seq (c_region ?_)
      refine wv h (r_move h rfl) rfl ?_
      clear h a w; intro a w h
      refine wv h (r_lenB h rfl K.u_S_uint8 (ViewsB.own 1 rfl)) rfl ?_
      clear h a w; intro a w h
      refine wv h (r_bin h rfl rfl (B.eql_int)) rfl ?_
      clear h a w; intro a w h
      have e1 : decide ((([] : List UInt8).length : Int) = 0) = true := by decide
      rw [e1] at h
      refine wv h (r_move h rfl) rfl ?_
      clear h a w; intro a w h
      first
        | (refine wvg h (r_move h rfl) rfl rfl ?_)
        | (refine wvs h rfl rfl ?_)
      clear h a w; intro a w h
      refine wlg h rfl rfl (op_call h rfl K.go_digit_Eye_Fault (eye_fault s _ b _ pv2 6 _ h.2) rfl ?_)
      clear h a w; intro x a w hx h
      first
        | (refine wvg h (r_bin h rfl rfl (B.eql_int)) rfl rfl ?_)
        | (refine wvs h rfl rfl ?_)
      clear h a w; intro a w h
      have e2 : decide ((6 : Int) = 6) = true := by decide
      rw [e2] at h
      replace h := (h.front 2 rfl).front 1 rfl
      first
        | (refine wv h (r_pick_true h rfl rfl) rfl ?_)
        | (refine wv h (r_pick_false h rfl rfl) rfl ?_)
        | (refine wv h (r_pick h rfl rfl rfl) rfl ?_)
      clear h a w; intro a w h
      refine wv h (r_move h rfl) rfl ?_
      clear h a w; intro a w h
      first
        | (refine wvg h (r_move h rfl) rfl rfl ?_)
        | (refine wvs h rfl rfl ?_)
      clear h a w; intro a w h
      refine wlg h rfl rfl (op_call h rfl K.go_digit_Eye_Left (eye_left s _ b _ pv2 [] 6 _ h.2) rfl ?_)
      clear h a w; intro x a w hx h
      first
        | (refine wvg h (r_bin h rfl rfl (B.eql_int)) rfl rfl ?_)
        | (refine wvs h rfl rfl ?_)
      clear h a w; intro a w h
      first
        | (refine wv h (r_pick_true h rfl rfl) rfl ?_)
        | (refine wv h (r_pick_false h rfl rfl) rfl ?_)
        | (refine wv h (r_pick h rfl rfl rfl) rfl ?_)
      clear h a w; intro a w h
      refine wv h (r_assign h rfl) rfl ?_
      clear h a w; intro a w h
      refine wnil (c_then ?_)
      refine c_ret ?_
      exact ret1 h rfl rfl ⟨(), rfl, h.2.drop 3, trivial⟩
    ·
      obtain ⟨kk, hk⟩ : ∃ kk : Nat, max n 0 = (kk : Int) := ⟨(max n 0).toNat, by omega⟩
      have hkl : kk ≤ l.length := by omega
      have hr : eyeRaw (0, l) n = (l.take kk, (0, l.drop kk)) := by
        by_cases hn : n ≤ 0
        · have : kk = 0 := by omega
          subst this; simp [eyeRaw, hn]
        · have : n.toNat = kk := by omega
          simp only [eyeRaw]
          rw [if_neg (by rintro (hh | hh); exact hh rfl; exact hn hh), if_neg (by omega), this]
      rw [hr] at h
      have hvv : ViewsB (Blk b (.cells #[pv2, .int .i64 0] t_digit_Eye) :: OwnB q (l.take kk) :: OwnB pv2 (l.drop kk) :: F) (subV 1 v 0 kk) (l.take kk) := by
        have := ViewsB.sub (((hv.cons (OwnB pv2 (l.drop kk))).cons (OwnB q (l.take kk))).cons (Blk b (.cells #[pv2, .int .i64 0] t_digit_Eye))) (i := 0) (j := kk) (by omega) (by omega)
        simpa using this
      refine c_skip ?_
      refine c_then ?_
      refine c_seq (c_region ?_)
      refine wv h (r_move h rfl) rfl ?_
      clear h a w; intro a w h
      refine wv h (r_max2 h rfl rfl) rfl ?_
      clear h a w; intro a w h
      rw [hk] at h
      refine wv h (r_assign h rfl) rfl ?_
      clear h a w; intro a w h
      refine wnil (c_then ?_)
      refine c_seq (c_draw K.mixed (by kernel_rfl) h ?_)
      clear h a w; intro a hE
      refine qv hE (fun w hw => r_move ⟨hE, hw⟩ rfl) rfl ?_
      clear hE a; intro a hE
      refine qv hE (fun w hw => r_b2sb ⟨hE, hw⟩ rfl K.u_S_uint8 K.u_uint8 K.u_string (ViewsB.own 1 rfl)) rfl ?_
      clear hE a; intro a hE
      refine qv hE (fun w hw => r_move ⟨hE, hw⟩ rfl) rfl ?_
      clear hE a; intro a hE
      refine qv hE (fun w hw => r_move ⟨hE, hw⟩ rfl) rfl ?_
      clear hE a; intro a hE
      refine qv hE (fun w hw => r_sliceB ⟨hE, hw⟩ rfl K.u_S_uint8 K.sz_uint8 (((hv.cons _).cons _).cons _) 0 kk rfl ⟨_, rfl⟩ (by omega) (by omega)) rfl ?_
      clear hE a; intro a hE
      refine qv hE (fun w hw => r_b2sb ⟨hE, hw⟩ rfl K.u_S_uint8 K.u_uint8 K.u_string hvv) rfl ?_
      clear hE a; intro a hE
      refine qv hE (fun w hw => r_streq ⟨hE, hw⟩ rfl rfl) rfl ?_
      clear hE a; intro a hE
      rw [decide_eq_true rfl] at hE
      refine qv hE (fun w hw => r_move ⟨hE, hw⟩ rfl) rfl ?_
      clear hE a; intro a hE
      first
        | (refine qvg hE (fun w hw => r_move ⟨hE, hw⟩ rfl) rfl rfl ?_)
        | (refine qvs hE rfl rfl ?_)
      clear hE a; intro a hE
      refine q_callg hE rfl K.go_digit_Eye_Left (fun w hw => Ret.keeps (eye_left s w b _ pv2 (l.drop kk) 0 _ ((hw.front 2 rfl).front 1 rfl)) (fun _ _ => rfl) (fun _ w' h' => (h'.front 2 rfl).front 1 rfl)) rfl rfl ?_
      clear hE a; intro a hE
      first
        | (refine qvg hE (fun w hw => r_move ⟨hE, hw⟩ rfl) rfl rfl ?_)
        | (refine qvs hE rfl rfl ?_)
      clear hE a; intro a hE
      refine qvg hE (fun w hw => r_lenB ⟨hE, hw⟩ rfl K.u_S_uint8 (((hv.cons _).cons _).cons _)) rfl rfl ?_
      clear hE a; intro a hE
      first
        | (refine qvg hE (fun w hw => r_move ⟨hE, hw⟩ rfl) rfl rfl ?_)
        | (refine qvs hE rfl rfl ?_)
      clear hE a; intro a hE
      first
        | (refine qvg hE (fun w hw => r_bin ⟨hE, hw⟩ rfl rfl (B.sub_i64 (by omega) (by omega))) rfl rfl ?_)
        | (refine qvs hE rfl rfl ?_)
      clear hE a; intro a hE
      first
        | (refine qvg hE (fun w hw => r_bin ⟨hE, hw⟩ rfl rfl (B.eql_int)) rfl rfl ?_)
        | (refine qvs hE rfl rfl ?_)
      clear hE a; intro a hE
      have e3 : decide (((l.drop kk).length : Int) = (l.length : Int) - (kk : Int)) = true := decide_eq_true (by rw [List.length_drop]; omega)
      rw [e3] at hE
      first
        | (refine qv hE (fun w hw => r_pick_true ⟨hE, hw⟩ rfl rfl) rfl ?_)
        | (refine qv hE (fun w hw => r_pick_false ⟨hE, hw⟩ rfl rfl) rfl ?_)
        | (refine qv hE (fun w hw => r_pick ⟨hE, hw⟩ rfl rfl rfl) rfl ?_)
      clear hE a; intro a hE
      refine qv hE (fun w hw => r_move ⟨hE, hw⟩ rfl) rfl ?_
      clear hE a; intro a hE
      first
        | (refine qvg hE (fun w hw => r_move ⟨hE, hw⟩ rfl) rfl rfl ?_)
        | (refine qvs hE rfl rfl ?_)
      clear hE a; intro a hE
      refine q_callg hE rfl K.go_digit_Eye_Fault (fun w hw => Ret.keeps (eye_fault s w b _ pv2 0 _ hw) (fun _ _ => rfl) (fun _ w' h' => h')) rfl rfl ?_
      clear hE a; intro a hE
      first
        | (refine qvg hE (fun w hw => r_bin ⟨hE, hw⟩ rfl rfl (B.eql_int)) rfl rfl ?_)
        | (refine qvs hE rfl rfl ?_)
      clear hE a; intro a hE
      have e4 : decide ((0 : Int) = 0) = true := by decide
      rw [e4] at hE
      first
        | (refine qv hE (fun w hw => r_pick_true ⟨hE, hw⟩ rfl rfl) rfl ?_)
        | (refine qv hE (fun w hw => r_pick_false ⟨hE, hw⟩ rfl rfl) rfl ?_)
        | (refine qv hE (fun w hw => r_pick ⟨hE, hw⟩ rfl rfl rfl) rfl ?_)
      clear hE a; intro a hE
      refine qv hE (fun w hw => r_assign ⟨hE, hw⟩ rfl) rfl ?_
      clear hE a; intro a hE
      refine qnil hE ?_
      clear hE a; intro a w h
      refine c_then ?_
      refine c_ret ?_
      exact ret1 h rfl rfl ⟨(), rfl, h.2.drop 3, trivial⟩

theorem digitNums (s w : World) (v : Value) (l : List Int) (most : Int) (lo : -9223372036854775808 ≤ most) (hi : most ≤ 9223372036854775807) (F : List HItem) (hv : Views F 1 v l.length (ints l)) (hs : Sat s w F) :
    Calls P n_law01_DigitNums #[v, .int .i64 most] w (Ret s (fun _ : Unit => .bool true) (fun _ => F) (fun _ => True)) := by
  have hel := encN_len l
  refine enter K.fn_law01_DigitNums rfl K.nt_law01_DigitNums rfl hs ?_
  clear hs w; intro a w h
  refine c_seq (c_region ?_)
  refine wv h (r_assign h rfl) rfl ?_
  clear h a w; intro a w h
  refine wnil (c_then ?_)
  refine c_seq ?_
  refine c_seq (c_region ?_)
  refine wl rfl (op_call h rfl K.go_law01_awake (awake01 s _ _ h.2) rfl ?_)
  clear h a w; intro x a w hx h
  refine wv h (r_not h rfl) rfl ?_
  clear h a w; intro a w h
  refine wv h (r_move h rfl) rfl ?_
  clear h a w; intro a w h
  first
    | (refine wvg h (r_move h rfl) rfl rfl ?_)
    | (refine wvs h rfl rfl ?_)
  clear h a w; intro a w h
  refine wvg h (r_lenV h rfl K.u_S_int hv) rfl rfl ?_
  clear h a w; intro a w h
  first
    | (refine wvg h (r_bin h rfl rfl (B.gtr_int)) rfl rfl ?_)
    | (refine wvs h rfl rfl ?_)
  clear h a w; intro a w h
  first
    | (refine wv h (r_pick_true h rfl rfl) rfl ?_)
    | (refine wv h (r_pick_false h rfl rfl) rfl ?_)
    | (refine wv h (r_pick h rfl rfl rfl) rfl ?_)
  clear h a w; intro a w h
  refine wnil (c_then ?_)
  refine c_condD h rfl (fun ht1 => ?_) (fun ht1 => ?_)
  ·
    refine c_seq (c_region ?_)
    refine wl rfl (op_call h rfl K.go_law01_awake (awake01 s _ _ h.2) rfl ?_)
    clear h a w; intro x a w hx h
    refine wv h (r_assign h rfl) rfl ?_
    clear h a w; intro a w h
    refine wnil (c_then ?_)
    refine c_ret ?_
    exact ret1 h rfl rfl ⟨(), rfl, h.2, trivial⟩
  ·
    have hl20 : l.length ≤ 20 := by omega
    refine c_skip ?_
    refine c_then ?_
    refine c_seq (c_region ?_)
    refine wv h (r_build h K.u_digit_Pen K.z_digit_Pen K.pl_digit_Pen rfl rfl) rfl ?_
    clear h a w; intro a w h
    refine wl rfl (op_box h rfl rfl ?_)
    clear h a w; intro b a w h
    refine wv h (r_assign h rfl) rfl ?_
    clear h a w; intro a w h
    replace h := ((h.addNilb).addNilb).front 2 rfl
    refine wnil (c_then ?_)
    refine c_seq (c_region ?_)
    refine wv h (r_assign h rfl) rfl ?_
    clear h a w; intro a w h
    refine wnil (c_then ?_)
    refine c_seq ?_
    refine c_seq (c_region ?_)
    refine wv h (r_assign h rfl) rfl ?_
    clear h a w; intro a w h
    refine wnil (c_then ?_)
    refine c_block ?_
    refine c_loop (X := Nat × Value × Value) (fun x => [(0, v), (1, .int .i64 most), (5, .pointer (some ⟨b, 0, none⟩)), (6, x.2.2), (7, .int .i64 (x.1 : Int))])
      (fun x => Blk b (.cells #[x.2.1] t_digit_Pen) :: OwnB x.2.1 (encN (l.take x.1)) :: OwnB x.2.2 (encN (l.take x.1)) :: F)
      (fun x => x.1 ≤ l.length) (fun x => l.length - x.1) (0, .slice none 0 0, .slice none 0 0) (h.keep [0, 1, 5, 6, 7]) (by simp) ?_
    clear h a w; intro x a w hx h
    obtain ⟨i, pv, nw⟩ := x
    simp only at hx h
    refine c_seq ?_
    refine c_seq (c_region ?_)
    refine wv h (r_move h rfl) rfl ?_
    clear h a w; intro a w h
    refine wv h (r_move h rfl) rfl ?_
    clear h a w; intro a w h
    refine wv h (r_lenV h rfl K.u_S_int (Views.of_drop 3 hv)) rfl ?_
    clear h a w; intro a w h
    refine wv h (r_bin h rfl rfl (B.lss_int)) rfl ?_
    clear h a w; intro a w h
    refine wnil (c_then ?_)
    refine c_condD h rfl (fun ht2 => ?_) (fun ht2 => ?_)
    ·
      obtain ⟨m, hm⟩ : ∃ m, l[i]? = some m := ⟨l[i]'(by omega), by simp⟩
      have hte := take_snoc hm
      have htl := encN_len (l.take i)
      rw [List.length_take] at htl
      refine c_skip ?_
      refine c_then ?_
      refine c_seq ?_
      refine c_block ?_
      refine c_seq (c_region ?_)
      refine wv h (r_move h rfl) rfl ?_
      clear h a w; intro a w h
      refine wv h (r_move h rfl) rfl ?_
      clear h a w; intro a w h
      refine wv h (r_move h rfl) rfl ?_
      clear h a w; intro a w h
      refine wl rfl (op_indexAddr1 h rfl rfl K.u_S_int K.sz_int (Views.of_drop 3 hv) i rfl (ints_get hm) rfl ?_)
      clear h a w; intro p a w hp h
      first
        | (refine wv h (r_load h rfl K.u_int rfl 0 rfl rfl) rfl ?_)
        | (refine wv h (r_load h rfl K.u_int rfl 1 rfl rfl) rfl ?_)
        | (refine wv h (r_load h rfl K.u_int rfl 2 rfl rfl) rfl ?_)
        | (refine wv h (r_load h rfl K.u_int rfl 3 rfl rfl) rfl ?_)
        | (refine wv h (r_load h rfl K.u_int rfl 4 rfl rfl) rfl ?_)
        | (refine wv h (r_load h rfl K.u_int rfl 5 rfl rfl) rfl ?_)
        | (refine wv h (r_load1 h rfl K.u_int rfl (by assumption)) rfl ?_)
      clear h a w; intro a w h
      refine wl rfl (op_call h rfl K.go_law01_num (law_num s _ m _ h.2) rfl ?_)
      clear h a w; intro x a w hx h
      refine wl rfl (op_call h rfl K.go_digit_Pen_Num (pen_num s _ b 0 _ _ pv (encN (l.take i)) (hnum m) _ (by have := hnum_lt m; omega) rfl (by omega) h.2) rfl ?_)
      clear h a w; intro pv2 a w hx2 h
      refine wnil (c_then ?_)
      refine c_region ?_
      refine wv h (r_move h rfl) rfl ?_
      clear h a w; intro a w h
      refine wv h (r_move h rfl) rfl ?_
      clear h a w; intro a w h
      refine wv h (r_move h rfl) rfl ?_
      clear h a w; intro a w h
      refine wl rfl (op_indexAddr1 h rfl rfl K.u_S_int K.sz_int (Views.of_drop 3 hv) i rfl (ints_get hm) rfl ?_)
      clear h a w; intro p a w hp h
      first
        | (refine wv h (r_load h rfl K.u_int rfl 0 rfl rfl) rfl ?_)
        | (refine wv h (r_load h rfl K.u_int rfl 1 rfl rfl) rfl ?_)
        | (refine wv h (r_load h rfl K.u_int rfl 2 rfl rfl) rfl ?_)
        | (refine wv h (r_load h rfl K.u_int rfl 3 rfl rfl) rfl ?_)
        | (refine wv h (r_load h rfl K.u_int rfl 4 rfl rfl) rfl ?_)
        | (refine wv h (r_load h rfl K.u_int rfl 5 rfl rfl) rfl ?_)
        | (refine wv h (r_load1 h rfl K.u_int rfl (by assumption)) rfl ?_)
      clear h a w; intro a w h
      refine wl rfl (op_call h rfl K.go_law01_num (law_num s _ m _ h.2) rfl ?_)
      clear h a w; intro x a w hx h
      refine wl rfl (op_call h rfl K.go_ref01_Num (ref_num s _ (hnum m) _ (hnum_lt m) h.2) rfl ?_)
      clear h a w; intro nv a w hx3 h
      refine wl rfl (op_appendbs h rfl rfl K.u_S_uint8 K.sz_uint8 K.z_uint8 rfl rfl 3 rfl (Src.bytes K.u_S_uint8 (ViewsB.own 0 rfl) h.2) (by have := numN_len9 (hnum m) (hnum_lt m); omega) rfl ?_)
      clear h a w; intro nw2 a w h
      refine wv h (r_assign h rfl) rfl ?_
      clear h a w; intro a w h
      refine wnil ?_
      refine b_normal ?_
      refine c_then ?_
      refine c_region ?_
      refine wv h (r_move h rfl) rfl ?_
      clear h a w; intro a w h
      refine wv h (r_bin h rfl rfl (B.add_i64 (by omega) (by omega))) rfl ?_
      clear h a w; intro a w h
      refine wv h (r_assign h rfl) rfl ?_
      clear h a w; intro a w h
      refine wnil ?_
      refine ⟨(i + 1, pv2, nw2), ?_, ?_, ?_⟩
      · have := (h.drop 1).keep [0, 1, 5, 6, 7]
        simp only [hte, encN_snoc]
        exact this
      · show i + 1 ≤ l.length; omega
      · show l.length - (i + 1) < l.length - i; omega
    ·
      have hil : i = l.length := by omega
      subst hil
      rw [List.take_length] at h
      refine c_exit ?_
      refine e_then ?_
      refine e_then ?_
      refine e_here ?_
      refine c_then ?_
      refine c_seq ?_
      refine c_seq (c_draw K.mixed (by kernel_rfl) h ?_)
      clear h a w; intro a hE
      refine qv hE (fun w hw => r_move ⟨hE, hw⟩ rfl) rfl ?_
      clear hE a; intro a hE
      refine qv hE (fun w hw => r_nilCheck ⟨hE, hw⟩ rfl) rfl ?_
      clear hE a; intro a hE
      refine qv hE (fun w hw => r_fieldAddr0 ⟨hE, hw⟩ rfl K.u_digit_Pen rfl K.sz_S_uint8 rfl rfl) rfl ?_
      clear hE a; intro a hE
      first
        | (refine qv hE (fun w hw => r_load ⟨hE, hw⟩ rfl K.u_S_uint8 rfl 0 rfl rfl) rfl ?_)
        | (refine qv hE (fun w hw => r_load ⟨hE, hw⟩ rfl K.u_S_uint8 rfl 1 rfl rfl) rfl ?_)
        | (refine qv hE (fun w hw => r_load ⟨hE, hw⟩ rfl K.u_S_uint8 rfl 2 rfl rfl) rfl ?_)
        | (refine qv hE (fun w hw => r_load ⟨hE, hw⟩ rfl K.u_S_uint8 rfl 3 rfl rfl) rfl ?_)
        | (refine qv hE (fun w hw => r_load ⟨hE, hw⟩ rfl K.u_S_uint8 rfl 4 rfl rfl) rfl ?_)
        | (refine qv hE (fun w hw => r_load ⟨hE, hw⟩ rfl K.u_S_uint8 rfl 5 rfl rfl) rfl ?_)
        | (refine qv hE (fun w hw => r_load1 ⟨hE, hw⟩ rfl K.u_S_uint8 rfl (by assumption)) rfl ?_)
      clear hE a; intro a hE
      refine qv hE (fun w hw => r_b2sb ⟨hE, hw⟩ rfl K.u_S_uint8 K.u_uint8 K.u_string (ViewsB.own 1 rfl)) rfl ?_
      clear hE a; intro a hE
      refine qv hE (fun w hw => r_move ⟨hE, hw⟩ rfl) rfl ?_
      clear hE a; intro a hE
      refine qv hE (fun w hw => r_b2sb ⟨hE, hw⟩ rfl K.u_S_uint8 K.u_uint8 K.u_string (ViewsB.own 2 rfl)) rfl ?_
      clear hE a; intro a hE
      refine qv hE (fun w hw => r_strne ⟨hE, hw⟩ rfl rfl) rfl ?_
      clear hE a; intro a hE
      have e1 : decide (encN l ≠ encN l) = false := by simp
      rw [e1] at hE
      refine qnil hE ?_
      clear hE a; intro a w h
      refine c_then ?_
      refine c_false h rfl ?_
      refine c_skip ?_
      refine c_then ?_
      refine c_seq (c_region ?_)
      refine wv h (r_move h rfl) rfl ?_
      clear h a w; intro a w h
      refine wv h (r_nilCheck h rfl) rfl ?_
      clear h a w; intro a w h
      refine wv h (r_fieldAddr0 h rfl K.u_digit_Pen rfl K.sz_S_uint8 rfl rfl) rfl ?_
      clear h a w; intro a w h
      first
        | (refine wv h (r_load h rfl K.u_S_uint8 rfl 0 rfl rfl) rfl ?_)
        | (refine wv h (r_load h rfl K.u_S_uint8 rfl 1 rfl rfl) rfl ?_)
        | (refine wv h (r_load h rfl K.u_S_uint8 rfl 2 rfl rfl) rfl ?_)
        | (refine wv h (r_load h rfl K.u_S_uint8 rfl 3 rfl rfl) rfl ?_)
        | (refine wv h (r_load h rfl K.u_S_uint8 rfl 4 rfl rfl) rfl ?_)
        | (refine wv h (r_load h rfl K.u_S_uint8 rfl 5 rfl rfl) rfl ?_)
        | (refine wv h (r_load1 h rfl K.u_S_uint8 rfl (by assumption)) rfl ?_)
      clear h a w; intro a w h
      refine wl rfl (op_call h rfl K.go_digit_NewEye (new_eye s _ pv (encN l) _ (by omega) (ViewsB.own 1 rfl) h.2) rfl ?_)
      clear h a w; intro x a w hx h
      obtain ⟨b2, ev⟩ := x
      replace h := ((((h.front 3 rfl).drop 1).front 3 rfl).drop 1).front 2 rfl
      replace h := (h.drop 1)
      refine wv h (r_assign h rfl) rfl ?_
      clear h a w; intro a w h
      refine wnil (c_then ?_)
      refine c_seq ?_
      refine c_seq (c_region ?_)
      refine wv h (r_assign h rfl) rfl ?_
      clear h a w; intro a w h
      refine wnil (c_then ?_)
      refine c_block ?_
      refine c_loop (X := Nat × Value) (fun x => [(0, v), (1, .int .i64 most), (8, .pointer (some ⟨b2, 0, none⟩)), (9, .int .i64 (x.1 : Int))])
        (fun x => Blk b2 (.cells #[x.2, .int .i64 0] t_digit_Eye) :: OwnB x.2 (encN (l.drop x.1)) :: F)
        (fun x => x.1 ≤ l.length) (fun x => l.length - x.1) (0, ev) (h.keep [0, 1, 8, 9]) (by simp) ?_
      clear h a w; intro x a w hx h
      obtain ⟨i, ev⟩ := x
      simp only at hx h
      refine c_seq ?_
      refine c_seq (c_region ?_)
      refine wv h (r_move h rfl) rfl ?_
      clear h a w; intro a w h
      refine wv h (r_move h rfl) rfl ?_
      clear h a w; intro a w h
      refine wv h (r_lenV h rfl K.u_S_int (Views.of_drop 2 hv)) rfl ?_
      clear h a w; intro a w h
      refine wv h (r_bin h rfl rfl (B.lss_int)) rfl ?_
      clear h a w; intro a w h
      refine wnil (c_then ?_)
      refine c_condD h rfl (fun ht4 => ?_) (fun ht4 => ?_)
      ·
        obtain ⟨m, hm⟩ : ∃ m, l[i]? = some m := ⟨l[i]'(by omega), by simp⟩
        have hde := drop_cons hm
        have htl := encN_len (l.drop i)
        rw [List.length_drop] at htl
        have hee : eyeNum (0, encN (l.drop i)) most = if max most 0 < (hnum m : Int) then (0, (5, [])) else ((hnum m : Int), (0, encN (l.drop (i + 1)))) := by
          rw [hde]
          exact eyeNum_numN (hnum m) _ most (hnum_lt m)
        refine c_skip ?_
        refine c_then ?_
        refine c_seq ?_
        refine c_block ?_
        refine c_seq (c_region ?_)
        refine wv h (r_move h rfl) rfl ?_
        clear h a w; intro a w h
        refine wv h (r_move h rfl) rfl ?_
        clear h a w; intro a w h
        refine wl rfl (op_call h rfl K.go_digit_Eye_Num (eye_num s _ b2 _ ev (encN (l.drop i)) 0 most _ lo hi (by omega) h.2) rfl ?_)
        clear h a w; intro ev2 a w hx2 h
        rw [hee] at h
        refine wv h (r_assign h rfl) rfl ?_
        clear h a w; intro a w h
        refine wnil (c_then ?_)
        refine c_seq ?_
        refine c_seq (c_region ?_)
        refine wv h (r_move h rfl) rfl ?_
        clear h a w; intro a w h
        refine wv h (r_move h rfl) rfl ?_
        clear h a w; intro a w h
        refine wl rfl (op_indexAddr1 h rfl rfl K.u_S_int K.sz_int (Views.of_drop 2 hv) i rfl (ints_get hm) rfl ?_)
        clear h a w; intro p a w hp h
        first
          | (refine wv h (r_load h rfl K.u_int rfl 0 rfl rfl) rfl ?_)
          | (refine wv h (r_load h rfl K.u_int rfl 1 rfl rfl) rfl ?_)
          | (refine wv h (r_load h rfl K.u_int rfl 2 rfl rfl) rfl ?_)
          | (refine wv h (r_load h rfl K.u_int rfl 3 rfl rfl) rfl ?_)
          | (refine wv h (r_load h rfl K.u_int rfl 4 rfl rfl) rfl ?_)
          | (refine wv h (r_load h rfl K.u_int rfl 5 rfl rfl) rfl ?_)
          | (refine wv h (r_load1 h rfl K.u_int rfl (by assumption)) rfl ?_)
        clear h a w; intro a w h
        refine wl rfl (op_call h rfl K.go_law01_num (law_num s _ m _ h.2) rfl ?_)
        clear h a w; intro x a w hx h
        refine wv h (r_move h rfl) rfl ?_
        clear h a w; intro a w h
        refine wv h (r_max2 h rfl rfl) rfl ?_
        clear h a w; intro a w h
        refine wv h (r_bin h rfl rfl (B.gtr_int)) rfl ?_
        clear h a w; intro a w h
        refine wnil (c_then ?_)
        refine c_condD h rfl (fun ht5 => ?_) (fun ht5 => ?_)
        ·
          rw [if_pos ht5] at h
          refine c_seq (c_region ?_)
          refine wv h (r_move h rfl) rfl ?_
          clear h a w; intro a w h
          refine wv h (r_bin h rfl rfl (B.eql_int)) rfl ?_
          clear h a w; intro a w h
          have e2 : decide ((0 : Int) = 0) = true := by decide
          rw [e2] at h
          refine wv h (r_move h rfl) rfl ?_
          clear h a w; intro a w h
          first
            | (refine wvg h (r_move h rfl) rfl rfl ?_)
            | (refine wvs h rfl rfl ?_)
          clear h a w; intro a w h
          refine wlg h rfl rfl (op_call h rfl K.go_digit_Eye_Fault (eye_fault s _ b2 _ ev2 5 _ h.2) rfl ?_)
          clear h a w; intro x a w hx h
          first
            | (refine wvg h (r_bin h rfl rfl (B.eql_int)) rfl rfl ?_)
            | (refine wvs h rfl rfl ?_)
          clear h a w; intro a w h
          have e3 : decide ((5 : Int) = 5) = true := by decide
          rw [e3] at h
          first
            | (refine wv h (r_pick_true h rfl rfl) rfl ?_)
            | (refine wv h (r_pick_false h rfl rfl) rfl ?_)
            | (refine wv h (r_pick h rfl rfl rfl) rfl ?_)
          clear h a w; intro a w h
          refine wv h (r_move h rfl) rfl ?_
          clear h a w; intro a w h
          first
            | (refine wvg h (r_move h rfl) rfl rfl ?_)
            | (refine wvs h rfl rfl ?_)
          clear h a w; intro a w h
          refine wlg h rfl rfl (op_call h rfl K.go_digit_Eye_Num (eye_num s _ b2 _ ev2 [] 5 5 _ (by omega) (by omega) (by simp) h.2) rfl ?_)
          clear h a w; intro x a w hx h
          first
            | (refine wvg h (r_bin h rfl rfl (B.eql_int)) rfl rfl ?_)
            | (refine wvs h rfl rfl ?_)
          clear h a w; intro a w h
          have e4 : decide ((eyeNum (5, []) 5).1 = 0) = true := by decide
          rw [e4] at h
          first
            | (refine wv h (r_pick_true h rfl rfl) rfl ?_)
            | (refine wv h (r_pick_false h rfl rfl) rfl ?_)
            | (refine wv h (r_pick h rfl rfl rfl) rfl ?_)
          clear h a w; intro a w h
          refine wv h (r_assign h rfl) rfl ?_
          clear h a w; intro a w h
          refine wnil (c_then ?_)
          refine c_ret ?_
          exact ret1 h rfl rfl ⟨(), rfl, h.2.drop 2, trivial⟩
        ·
          rw [if_neg ht5] at h
          refine c_skip ?_
          refine c_then ?_
          refine c_seq (c_region ?_)
          refine wv h (r_move h rfl) rfl ?_
          clear h a w; intro a w h
          refine wv h (r_move h rfl) rfl ?_
          clear h a w; intro a w h
          refine wv h (r_move h rfl) rfl ?_
          clear h a w; intro a w h
          refine wl rfl (op_indexAddr1 h rfl rfl K.u_S_int K.sz_int (Views.of_drop 2 hv) i rfl (ints_get hm) rfl ?_)
          clear h a w; intro p a w hp h
          first
            | (refine wv h (r_load h rfl K.u_int rfl 0 rfl rfl) rfl ?_)
            | (refine wv h (r_load h rfl K.u_int rfl 1 rfl rfl) rfl ?_)
            | (refine wv h (r_load h rfl K.u_int rfl 2 rfl rfl) rfl ?_)
            | (refine wv h (r_load h rfl K.u_int rfl 3 rfl rfl) rfl ?_)
            | (refine wv h (r_load h rfl K.u_int rfl 4 rfl rfl) rfl ?_)
            | (refine wv h (r_load h rfl K.u_int rfl 5 rfl rfl) rfl ?_)
            | (refine wv h (r_load1 h rfl K.u_int rfl (by assumption)) rfl ?_)
          clear h a w; intro a w h
          refine wl rfl (op_call h rfl K.go_law01_num (law_num s _ m _ h.2) rfl ?_)
          clear h a w; intro x a w hx h
          refine wv h (r_bin h rfl rfl (B.neq_int)) rfl ?_
          clear h a w; intro a w h
          have e5 : decide ((hnum m : Int) ≠ (hnum m : Int)) = false := by simp
          rw [e5] at h
          refine wnil (c_then ?_)
          refine c_false h rfl ?_
          refine c_skip ?_
          refine b_normal ?_
          refine c_then ?_
          refine c_region ?_
          refine wv h (r_move h rfl) rfl ?_
          clear h a w; intro a w h
          refine wv h (r_bin h rfl rfl (B.add_i64 (by omega) (by omega))) rfl ?_
          clear h a w; intro a w h
          refine wv h (r_assign h rfl) rfl ?_
          clear h a w; intro a w h
          refine wnil ?_
          refine ⟨(i + 1, ev2), h.keep [0, 1, 8, 9], ?_, ?_⟩
          · show i + 1 ≤ l.length; omega
          · show l.length - (i + 1) < l.length - i; omega
      ·
        have hil : i = l.length := by omega
        subst hil
        rw [List.drop_length] at h
        refine c_exit ?_
        refine e_then ?_
        refine e_then ?_
        refine e_here ?_
        refine c_then ?_
        refine c_seq (c_region ?_)
        refine wv h (r_move h rfl) rfl ?_
        clear h a w; intro a w h
        refine wl rfl (op_call h rfl K.go_digit_Eye_End (eye_End s _ b2 _ ev [] 0 _ h.2) rfl ?_)
        clear h a w; intro x a w hx h
        refine wv h (r_bin h rfl rfl (B.eql_int)) rfl ?_
        clear h a w; intro a w h
        have e6 : decide (eyeEnd (0, []) = 0) = true := by decide
        rw [e6] at h
        refine wv h (r_assign h rfl) rfl ?_
        clear h a w; intro a w h
        refine wnil (c_then ?_)
        refine c_ret ?_
        exact ret1 h rfl rfl ⟨(), rfl, h.2.drop 2, trivial⟩

theorem cut_step (l : List Int) (i m kk : Nat) (n : Int) (hn : l[i]? = some n) :
    eyeNum (0, (encN (l.drop i)).take (kk - m)) 9223372036854775807 =
      if kk - m < (numN (hnum n)).length then (0, (6, [])) else ((hnum n : Int), (0, (encN (l.drop (i + 1))).take (kk - (m + (numN (hnum n)).length)))) := by
  have he : encN (l.drop i) = numN (hnum n) ++ encN (l.drop (i + 1)) := by rw [drop_cons hn]; rfl
  have hlt := hnum_lt n
  rw [he]
  split
  · rename_i h
    rw [List.take_append_of_le_length (by omega)]
    exact eyeNum_cut _ _ _ hlt h
  · rename_i h
    rw [List.take_append, List.take_of_length_le (by omega), eyeNum_numN _ _ _ hlt, if_neg (by omega), show kk - m - (numN (hnum n)).length = kk - (m + (numN (hnum n)).length) by omega]

theorem digitCuts (s w : World) (v : Value) (l : List Int) (cut : UInt8) (e : Int) (lo : -128 ≤ e) (hi : e ≤ 127) (F : List HItem) (hv : Views F 1 v l.length (ints l)) (hs : Sat s w F) :
    Calls P n_law01_DigitCuts #[v, bv cut, .int .i8 e] w (Ret s (fun _ : Unit => .bool true) (fun _ => F) (fun _ => True)) := by
  have hel := encN_len l
  refine enter K.fn_law01_DigitCuts rfl K.nt_law01_DigitCuts rfl hs ?_
  clear hs w; intro a w h
  refine c_seq (c_region ?_)
  refine wv h (r_assign h rfl) rfl ?_
  clear h a w; intro a w h
  refine wnil (c_then ?_)
  refine c_seq ?_
  refine c_seq (c_region ?_)
  refine wl rfl (op_call h rfl K.go_law01_awake (awake01 s _ _ h.2) rfl ?_)
  clear h a w; intro x a w hx h
  refine wv h (r_not h rfl) rfl ?_
  clear h a w; intro a w h
  refine wv h (r_move h rfl) rfl ?_
  clear h a w; intro a w h
  first
    | (refine wvg h (r_move h rfl) rfl rfl ?_)
    | (refine wvs h rfl rfl ?_)
  clear h a w; intro a w h
  refine wvg h (r_lenV h rfl K.u_S_int hv) rfl rfl ?_
  clear h a w; intro a w h
  first
    | (refine wvg h (r_bin h rfl rfl (B.gtr_int)) rfl rfl ?_)
    | (refine wvs h rfl rfl ?_)
  clear h a w; intro a w h
  first
    | (refine wv h (r_pick_true h rfl rfl) rfl ?_)
    | (refine wv h (r_pick_false h rfl rfl) rfl ?_)
    | (refine wv h (r_pick h rfl rfl rfl) rfl ?_)
  clear h a w; intro a w h
  refine wnil (c_then ?_)
  refine c_condD h rfl (fun ht1 => ?_) (fun ht1 => ?_)
  ·
    refine c_seq (c_region ?_)
    refine wl rfl (op_call h rfl K.go_law01_awake (awake01 s _ _ h.2) rfl ?_)
    clear h a w; intro x a w hx h
    refine wv h (r_assign h rfl) rfl ?_
    clear h a w; intro a w h
    refine wnil (c_then ?_)
    refine c_ret ?_
    exact ret1 h rfl rfl ⟨(), rfl, h.2, trivial⟩
  ·
    have hl20 : l.length ≤ 12 := by omega
    refine c_skip ?_
    refine c_then ?_
    refine c_seq (c_region ?_)
    refine wv h (r_assign h rfl) rfl ?_
    clear h a w; intro a w h
    replace h := h.addNilb
    refine wnil (c_then ?_)
    refine c_seq ?_
    refine c_seq (c_region ?_)
    refine wv h (r_assign h rfl) rfl ?_
    clear h a w; intro a w h
    refine wnil (c_then ?_)
    refine c_block ?_
    refine c_loop (X := Nat × Value) (fun x => [(0, v), (1, bv cut), (2, .int .i8 e), (7, x.2), (8, .int .i64 (x.1 : Int))])
      (fun x => OwnB x.2 (encN (l.take x.1)) :: F) (fun x => x.1 ≤ l.length) (fun x => l.length - x.1) (0, .slice none 0 0) (h.keep [0, 1, 2, 7, 8]) (by simp) ?_
    clear h a w; intro x a w hx h
    obtain ⟨i, pv⟩ := x
    simp only at hx h
    refine c_seq ?_
    refine c_seq (c_region ?_)
    refine wv h (r_move h rfl) rfl ?_
    clear h a w; intro a w h
    refine wv h (r_move h rfl) rfl ?_
    clear h a w; intro a w h
    refine wv h (r_lenV h rfl K.u_S_int (Views.of_drop 1 hv)) rfl ?_
    clear h a w; intro a w h
    refine wv h (r_bin h rfl rfl (B.lss_int)) rfl ?_
    clear h a w; intro a w h
    refine wnil (c_then ?_)
    refine c_condD h rfl (fun ht2 => ?_) (fun ht2 => ?_)
    ·
      obtain ⟨m, hm⟩ : ∃ m, l[i]? = some m := ⟨l[i]'(by omega), by simp⟩
      have hte := take_snoc hm
      have htl := encN_len (l.take i)
      rw [List.length_take] at htl
      refine c_skip ?_
      refine c_then ?_
      refine c_seq ?_
      refine c_block ?_
      refine c_region ?_
      refine wv h (r_move h rfl) rfl ?_
      clear h a w; intro a w h
      refine wv h (r_move h rfl) rfl ?_
      clear h a w; intro a w h
      refine wv h (r_move h rfl) rfl ?_
      clear h a w; intro a w h
      refine wl rfl (op_indexAddr1 h rfl rfl K.u_S_int K.sz_int (Views.of_drop 1 hv) i rfl (ints_get hm) rfl ?_)
      clear h a w; intro p a w hp h
      first
        | (refine wv h (r_load h rfl K.u_int rfl 0 rfl rfl) rfl ?_)
        | (refine wv h (r_load h rfl K.u_int rfl 1 rfl rfl) rfl ?_)
        | (refine wv h (r_load h rfl K.u_int rfl 2 rfl rfl) rfl ?_)
        | (refine wv h (r_load h rfl K.u_int rfl 3 rfl rfl) rfl ?_)
        | (refine wv h (r_load h rfl K.u_int rfl 4 rfl rfl) rfl ?_)
        | (refine wv h (r_load h rfl K.u_int rfl 5 rfl rfl) rfl ?_)
        | (refine wv h (r_load1 h rfl K.u_int rfl (by assumption)) rfl ?_)
      clear h a w; intro a w h
      refine wl rfl (op_call h rfl K.go_law01_num (law_num s _ m _ h.2) rfl ?_)
      clear h a w; intro x a w hx h
      refine wl rfl (op_call h rfl K.go_ref01_Num (ref_num s _ (hnum m) _ (hnum_lt m) h.2) rfl ?_)
      clear h a w; intro nv a w hx3 h
      refine wl rfl (op_appendbs h rfl rfl K.u_S_uint8 K.sz_uint8 K.z_uint8 rfl rfl 1 rfl (Src.bytes K.u_S_uint8 (ViewsB.own 0 rfl) h.2) (by have := numN_len9 (hnum m) (hnum_lt m); omega) rfl ?_)
      clear h a w; intro pv2 a w h
      refine wv h (r_assign h rfl) rfl ?_
      clear h a w; intro a w h
      refine wnil ?_
      refine b_normal ?_
      refine c_then ?_
      refine c_region ?_
      refine wv h (r_move h rfl) rfl ?_
      clear h a w; intro a w h
      refine wv h (r_bin h rfl rfl (B.add_i64 (by omega) (by omega))) rfl ?_
      clear h a w; intro a w h
      refine wv h (r_assign h rfl) rfl ?_
      clear h a w; intro a w h
      refine wnil ?_
      refine ⟨(i + 1, pv2), ?_, ?_, ?_⟩
      · have := (h.drop 1).keep [0, 1, 2, 7, 8]
        simp only [hte, encN_snoc]
        exact this
      · show i + 1 ≤ l.length; omega
      · show l.length - (i + 1) < l.length - i; omega
    ·
      have hil : i = l.length := by omega
      subst hil
      rw [List.take_length] at h
      obtain ⟨pl, hpl⟩ : ∃ pl, encN l = pl := ⟨_, rfl⟩
      rw [hpl] at h hel
      obtain ⟨kk, hkk, hkl⟩ : ∃ kk : Nat, ((cut.toNat : Int) % ((pl.length : Int) + 1)) = (kk : Int) ∧ kk ≤ pl.length :=
        ⟨cut.toNat % (pl.length + 1), by rw [Int.natCast_emod]; rfl, by have := Nat.mod_lt cut.toNat (show 0 < pl.length + 1 by omega); omega⟩
      refine c_exit ?_
      refine e_then ?_
      refine e_then ?_
      refine e_here ?_
      refine c_then ?_
      refine c_seq (c_region ?_)
      refine wv h (r_move h rfl) rfl ?_
      clear h a w; intro a w h
      refine wv h (r_conv h rfl K.u_uint8 K.u_int (C.i64_u8) ) rfl ?_
      clear h a w; intro a w h
      refine wv h (r_move h rfl) rfl ?_
      clear h a w; intro a w h
      refine wv h (r_lenB h rfl K.u_S_uint8 (ViewsB.own 0 rfl)) rfl ?_
      clear h a w; intro a w h
      refine wv h (r_bin h rfl rfl (B.add_i64 (by omega) (by omega))) rfl ?_
      clear h a w; intro a w h
      refine wv h (r_bin h rfl rfl (B.rem_i64 (by omega) (by omega))) rfl ?_
      clear h a w; intro a w h
      rw [hkk] at h
      refine wv h (r_assign h rfl) rfl ?_
      clear h a w; intro a w h
      refine wnil (c_then ?_)
      refine c_seq (c_region ?_)
      refine wv h (r_move h rfl) rfl ?_
      clear h a w; intro a w h
      refine wv h (r_move h rfl) rfl ?_
      clear h a w; intro a w h
      refine wv h (r_sliceB h rfl K.u_S_uint8 K.sz_uint8 (ViewsB.own 0 rfl) 0 kk rfl ⟨_, rfl⟩ (by omega) hkl) rfl ?_
      clear h a w; intro a w h
      have hvv : ViewsB (OwnB pv pl :: F) (subV 1 pv 0 kk) (pl.take kk) := by
        have := ViewsB.sub (ViewsB.own (L := OwnB pv pl :: F) 0 rfl) (i := 0) (j := kk) (by omega) hkl
        simpa using this
      have hkl2 : (pl.take kk).length = kk := by rw [List.length_take]; omega
      refine wl rfl (op_call h rfl K.go_digit_NewEye (new_eye s _ _ (pl.take kk) _ (by omega) hvv h.2) rfl ?_)
      clear h a w; intro x a w hx h
      obtain ⟨b, ev⟩ := x
      replace h := (h.front 2 rfl).drop 1
      have hst : pl.take kk = (encN (l.drop 0)).take (kk - 0) := by simp [hpl]
      rw [hst] at h
      refine wv h (r_assign h rfl) rfl ?_
      clear h a w; intro a w h
      refine wnil (c_then ?_)
      refine c_seq (c_region ?_)
      refine wv h (r_assign h rfl) rfl ?_
      clear h a w; intro a w h
      refine wnil (c_then ?_)
      refine c_seq ?_
      refine c_seq (c_region ?_)
      refine wv h (r_assign h rfl) rfl ?_
      clear h a w; intro a w h
      refine wnil (c_then ?_)
      refine c_block ?_
      refine c_loop (X := Nat × Nat × Value) (fun x => [(0, v), (2, .int .i8 e), (9, .int .i64 (kk : Int)), (10, .pointer (some ⟨b, 0, none⟩)), (11, .int .i64 (x.2.1 : Int)), (12, .int .i64 (x.1 : Int))])
        (fun x => Blk b (.cells #[x.2.2, .int .i64 0] t_digit_Eye) :: OwnB x.2.2 ((encN (l.drop x.1)).take (kk - x.2.1)) :: F)
        (fun x => x.1 ≤ l.length ∧ x.2.1 ≤ kk) (fun x => l.length - x.1) (0, 0, ev) (h.keep [0, 2, 9, 10, 11, 12]) (by simp) ?_
      clear h a w; intro x a w hx h
      obtain ⟨i, at', ev⟩ := x
      simp only at hx h
      obtain ⟨hx1, hx2⟩ := hx
      refine c_seq ?_
      refine c_seq (c_region ?_)
      refine wv h (r_move h rfl) rfl ?_
      clear h a w; intro a w h
      refine wv h (r_move h rfl) rfl ?_
      clear h a w; intro a w h
      refine wv h (r_lenV h rfl K.u_S_int (Views.of_drop 2 hv)) rfl ?_
      clear h a w; intro a w h
      refine wv h (r_bin h rfl rfl (B.lss_int)) rfl ?_
      clear h a w; intro a w h
      refine wnil (c_then ?_)
      refine c_condD h rfl (fun ht3 => ?_) (fun ht3 => ?_)
      ·
        obtain ⟨m, hm⟩ : ∃ m, l[i]? = some m := ⟨l[i]'(by omega), by simp⟩
        have hee := cut_step l i at' kk m hm
        have hc9 := numN_len9 (hnum m) (hnum_lt m)
        have hc0 : ((encN (l.drop i)).take (kk - at')).length ≤ kk := by rw [List.length_take]; omega
        refine c_skip ?_
        refine c_then ?_
        refine c_seq ?_
        refine c_block ?_
        refine c_seq (c_region ?_)
        refine wv h (r_move h rfl) rfl ?_
        clear h a w; intro a w h
        refine wl rfl (op_call h rfl K.go_digit_Eye_Num (eye_num s _ b _ ev _ 0 9223372036854775807 _ (by omega) (by omega) (by omega) h.2) rfl ?_)
        clear h a w; intro ev2 a w hx4 h
        rw [hee] at h
        refine wv h (r_assign h rfl) rfl ?_
        clear h a w; intro a w h
        refine wnil (c_then ?_)
        refine c_seq (c_region ?_)
        refine wv h (r_move h rfl) rfl ?_
        clear h a w; intro a w h
        refine wv h (r_move h rfl) rfl ?_
        clear h a w; intro a w h
        refine wv h (r_move h rfl) rfl ?_
        clear h a w; intro a w h
        refine wl rfl (op_indexAddr1 h rfl rfl K.u_S_int K.sz_int (Views.of_drop 2 hv) i rfl (ints_get hm) rfl ?_)
        clear h a w; intro p a w hp h
        first
          | (refine wv h (r_load h rfl K.u_int rfl 0 rfl rfl) rfl ?_)
          | (refine wv h (r_load h rfl K.u_int rfl 1 rfl rfl) rfl ?_)
          | (refine wv h (r_load h rfl K.u_int rfl 2 rfl rfl) rfl ?_)
          | (refine wv h (r_load h rfl K.u_int rfl 3 rfl rfl) rfl ?_)
          | (refine wv h (r_load h rfl K.u_int rfl 4 rfl rfl) rfl ?_)
          | (refine wv h (r_load h rfl K.u_int rfl 5 rfl rfl) rfl ?_)
          | (refine wv h (r_load1 h rfl K.u_int rfl (by assumption)) rfl ?_)
        clear h a w; intro a w h
        refine wl rfl (op_call h rfl K.go_law01_num (law_num s _ m _ h.2) rfl ?_)
        clear h a w; intro x a w hx h
        refine wl rfl (op_call h rfl K.go_ref01_Num (ref_num s _ (hnum m) _ (hnum_lt m) h.2) rfl ?_)
        clear h a w; intro nv a w hx3 h
        refine wv h (r_lenB h rfl K.u_S_uint8 (ViewsB.own 0 rfl)) rfl ?_
        clear h a w; intro a w h
        refine wv h (r_bin h rfl rfl (B.add_i64 (by omega) (by omega))) rfl ?_
        clear h a w; intro a w h
        refine wv h (r_assign h rfl) rfl ?_
        clear h a w; intro a w h
        refine wnil (c_then ?_)
        refine c_seq (c_region ?_)
        refine wv h (r_move h rfl) rfl ?_
        clear h a w; intro a w h
        refine wv h (r_move h rfl) rfl ?_
        clear h a w; intro a w h
        refine wv h (r_bin h rfl rfl (B.gtr_int)) rfl ?_
        clear h a w; intro a w h
        refine wnil (c_then ?_)
        refine c_condD h rfl (fun ht4 => ?_) (fun ht4 => ?_)
        ·
          rw [if_pos (by omega)] at h
          replace h := h.drop 1
          refine c_seq (c_region ?_)
          refine wv h (r_move h rfl) rfl ?_
          clear h a w; intro a w h
          refine wl rfl (op_call h rfl K.go_digit_Eye_Fail (eye_Fail s _ b _ ev2 [] 6 8 _ h.2) rfl ?_)
          clear h a w; intro ev3 a w hx5 h
          have e0 : eyeFail (6, []) 8 = (6, []) := by decide
          rw [e0] at h
          refine wnil (c_then ?_)
          refine c_seq (c_region ?_)
          refine wv h (r_move h rfl) rfl ?_
          clear h a w; intro a w h
          refine wv h (r_bin h rfl rfl (B.eql_int)) rfl ?_
          clear h a w; intro a w h
          have e2 : decide ((0 : Int) = 0) = true := by decide
          rw [e2] at h
          refine wv h (r_move h rfl) rfl ?_
          clear h a w; intro a w h
          first
            | (refine wvg h (r_move h rfl) rfl rfl ?_)
            | (refine wvs h rfl rfl ?_)
          clear h a w; intro a w h
          refine wlg h rfl rfl (op_call h rfl K.go_digit_Eye_Fault (eye_fault s _ b _ ev3 6 _ h.2) rfl ?_)
          clear h a w; intro x a w hx h
          first
            | (refine wvg h (r_bin h rfl rfl (B.eql_int)) rfl rfl ?_)
            | (refine wvs h rfl rfl ?_)
          clear h a w; intro a w h
          have e3 : decide ((6 : Int) = 6) = true := by decide
          rw [e3] at h
          first
            | (refine wv h (r_pick_true h rfl rfl) rfl ?_)
            | (refine wv h (r_pick_false h rfl rfl) rfl ?_)
            | (refine wv h (r_pick h rfl rfl rfl) rfl ?_)
          clear h a w; intro a w h
          refine wv h (r_move h rfl) rfl ?_
          clear h a w; intro a w h
          first
            | (refine wvg h (r_move h rfl) rfl rfl ?_)
            | (refine wvs h rfl rfl ?_)
          clear h a w; intro a w h
          refine wlg h rfl rfl (op_call h rfl K.go_digit_Eye_End (eye_End s _ b _ ev3 [] 6 _ h.2) rfl ?_)
          clear h a w; intro x a w hx h
          first
            | (refine wvg h (r_bin h rfl rfl (B.eql_int)) rfl rfl ?_)
            | (refine wvs h rfl rfl ?_)
          clear h a w; intro a w h
          have e4 : decide (eyeEnd (6, []) = 6) = true := by decide
          rw [e4] at h
          first
            | (refine wv h (r_pick_true h rfl rfl) rfl ?_)
            | (refine wv h (r_pick_false h rfl rfl) rfl ?_)
            | (refine wv h (r_pick h rfl rfl rfl) rfl ?_)
          clear h a w; intro a w h
          refine wv h (r_assign h rfl) rfl ?_
          clear h a w; intro a w h
          refine wnil (c_then ?_)
          refine c_ret ?_
          exact ret1 h rfl rfl ⟨(), rfl, h.2.drop 2, trivial⟩
        ·
          rw [if_neg (by omega)] at h
          refine c_skip ?_
          refine b_normal ?_
          refine c_then ?_
          refine c_region ?_
          refine wv h (r_move h rfl) rfl ?_
          clear h a w; intro a w h
          refine wv h (r_bin h rfl rfl (B.add_i64 (by omega) (by omega))) rfl ?_
          clear h a w; intro a w h
          refine wv h (r_assign h rfl) rfl ?_
          clear h a w; intro a w h
          refine wnil ?_
          refine ⟨(i + 1, at' + (numN (hnum m)).length, ev2), ?_, ⟨?_, ?_⟩, ?_⟩
          · have := (h.drop 1).keep [0, 2, 9, 10, 11, 12]
            simp only [Int.natCast_add]
            exact this
          · show i + 1 ≤ l.length; omega
          · show at' + (numN (hnum m)).length ≤ kk; omega
          · show l.length - (i + 1) < l.length - i; omega
      ·
        have hil : i = l.length := by omega
        subst hil
        rw [List.drop_length, show (encN []).take (kk - at') = [] by simp [encN]] at h
        refine c_exit ?_
        refine e_then ?_
        refine e_then ?_
        refine e_here ?_
        refine c_then ?_
        refine c_seq (c_region ?_)
        refine wv h (r_move h rfl) rfl ?_
        clear h a w; intro a w h
        refine wv h (r_move h rfl) rfl ?_
        clear h a w; intro a w h
        refine wv h (r_conv h rfl K.u_int8 K.u_api_Errno (C.i64_i8 (by omega) (by omega))) rfl ?_
        clear h a w; intro a w h
        refine wl rfl (op_call h rfl K.go_digit_Eye_Fail (eye_Fail s _ b _ ev [] 0 e _ h.2) rfl ?_)
        clear h a w; intro ev3 a w hx5 h
        have e0 : eyeFail (0, []) e = (e, []) := rfl
        rw [e0] at h
        refine wnil (c_then ?_)
        refine c_seq (c_region ?_)
        refine wv h (r_assign h rfl) rfl ?_
        clear h a w; intro a w h
        refine wnil (c_then ?_)
        refine c_seq (c_region ?_)
        refine wv h (r_move h rfl) rfl ?_
        clear h a w; intro a w h
        refine wl rfl (op_call h rfl K.go_digit_Eye_Fail (eye_Fail_nil s _ 8 _ h.2) rfl ?_)
        clear h a w; intro x a w hx h
        refine wnil (c_then ?_)
        refine c_seq (c_region ?_)
        refine wv h (r_move h rfl) rfl ?_
        clear h a w; intro a w h
        refine wl rfl (op_call h rfl K.go_digit_Eye_Fault (eye_fault s _ b _ ev3 e _ h.2) rfl ?_)
        clear h a w; intro x a w hx h
        refine wv h (r_move h rfl) rfl ?_
        clear h a w; intro a w h
        refine wv h (r_conv h rfl K.u_int8 K.u_api_Errno (C.i64_i8 (by omega) (by omega))) rfl ?_
        clear h a w; intro a w h
        refine wv h (r_bin h rfl rfl (B.eql_int)) rfl ?_
        clear h a w; intro a w h
        rw [decide_eq_true rfl] at h
        refine wv h (r_move h rfl) rfl ?_
        clear h a w; intro a w h
        first
          | (refine wvg h (r_move h rfl) rfl rfl ?_)
          | (refine wvs h rfl rfl ?_)
        clear h a w; intro a w h
        refine wlg h rfl rfl (op_call h rfl K.go_digit_Eye_Fault (eye_fault_nil s _ _ h.2) rfl ?_)
        clear h a w; intro x a w hx h
        first
          | (refine wvg h (r_bin h rfl rfl (B.eql_int)) rfl rfl ?_)
          | (refine wvs h rfl rfl ?_)
        clear h a w; intro a w h
        have e3 : decide ((2 : Int) = 2) = true := by decide
        rw [e3] at h
        first
          | (refine wv h (r_pick_true h rfl rfl) rfl ?_)
          | (refine wv h (r_pick_false h rfl rfl) rfl ?_)
          | (refine wv h (r_pick h rfl rfl rfl) rfl ?_)
        clear h a w; intro a w h
        refine wv h (r_move h rfl) rfl ?_
        clear h a w; intro a w h
        first
          | (refine wvg h (r_move h rfl) rfl rfl ?_)
          | (refine wvs h rfl rfl ?_)
        clear h a w; intro a w h
        refine wlg h rfl rfl (op_call h rfl K.go_digit_Eye_End (eye_End_nil s _ _ h.2) rfl ?_)
        clear h a w; intro x a w hx h
        first
          | (refine wvg h (r_bin h rfl rfl (B.eql_int)) rfl rfl ?_)
          | (refine wvs h rfl rfl ?_)
        clear h a w; intro a w h
        rw [e3] at h
        first
          | (refine wv h (r_pick_true h rfl rfl) rfl ?_)
          | (refine wv h (r_pick_false h rfl rfl) rfl ?_)
          | (refine wv h (r_pick h rfl rfl rfl) rfl ?_)
        clear h a w; intro a w h
        refine wv h (r_move h rfl) rfl ?_
        clear h a w; intro a w h
        first
          | (refine wvg h (r_move h rfl) rfl rfl ?_)
          | (refine wvs h rfl rfl ?_)
        clear h a w; intro a w h
        refine wlg h rfl rfl (op_call h rfl K.go_digit_Eye_Num (eye_num_nil s _ 5 _ h.2) rfl ?_)
        clear h a w; intro x a w hx h
        first
          | (refine wvg h (r_bin h rfl rfl (B.eql_int)) rfl rfl ?_)
          | (refine wvs h rfl rfl ?_)
        clear h a w; intro a w h
        have e2 : decide ((0 : Int) = 0) = true := by decide
        rw [e2] at h
        first
          | (refine wv h (r_pick_true h rfl rfl) rfl ?_)
          | (refine wv h (r_pick_false h rfl rfl) rfl ?_)
          | (refine wv h (r_pick h rfl rfl rfl) rfl ?_)
        clear h a w; intro a w h
        refine wv h (r_move h rfl) rfl ?_
        clear h a w; intro a w h
        first
          | (refine wvg h (r_move h rfl) rfl rfl ?_)
          | (refine wvs h rfl rfl ?_)
        clear h a w; intro a w h
        refine wlg h rfl rfl (op_call h rfl K.go_digit_Eye_Text (eye_text_nil s _ 5 _ h.2) rfl ?_)
        clear h a w; intro x a w hx h
        refine wvg h (r_streq (l := []) (m := []) h rfl rfl) rfl rfl ?_
        clear h a w; intro a w h
        rw [decide_eq_true rfl] at h
        first
          | (refine wv h (r_pick_true h rfl rfl) rfl ?_)
          | (refine wv h (r_pick_false h rfl rfl) rfl ?_)
          | (refine wv h (r_pick h rfl rfl rfl) rfl ?_)
        clear h a w; intro a w h
        refine wv h (r_move h rfl) rfl ?_
        clear h a w; intro a w h
        first
          | (refine wvg h (r_move h rfl) rfl rfl ?_)
          | (refine wvs h rfl rfl ?_)
        clear h a w; intro a w h
        refine wlg h rfl rfl (op_call h rfl K.go_digit_Eye_Raw (eye_raw_nil s _ 5 _ h.2) rfl ?_)
        clear h a w; intro x a w hx h
        refine wvg h (r_lenV h rfl K.u_S_uint8 (Views.nil _ 1)) rfl rfl ?_
        clear h a w; intro a w h
        first
          | (refine wvg h (r_bin h rfl rfl (B.eql_int)) rfl rfl ?_)
          | (refine wvs h rfl rfl ?_)
        clear h a w; intro a w h
        have e4 : decide (((0 : Nat) : Int) = 0) = true := by decide
        rw [e4] at h
        first
          | (refine wv h (r_pick_true h rfl rfl) rfl ?_)
          | (refine wv h (r_pick_false h rfl rfl) rfl ?_)
          | (refine wv h (r_pick h rfl rfl rfl) rfl ?_)
        clear h a w; intro a w h
        refine wv h (r_move h rfl) rfl ?_
        clear h a w; intro a w h
        first
          | (refine wvg h (r_move h rfl) rfl rfl ?_)
          | (refine wvs h rfl rfl ?_)
        clear h a w; intro a w h
        refine wlg h rfl rfl (op_call h rfl K.go_digit_Eye_Left (eye_left_nil s _ _ h.2) rfl ?_)
        clear h a w; intro x a w hx h
        first
          | (refine wvg h (r_bin h rfl rfl (B.eql_int)) rfl rfl ?_)
          | (refine wvs h rfl rfl ?_)
        clear h a w; intro a w h
        rw [e2] at h
        first
          | (refine wv h (r_pick_true h rfl rfl) rfl ?_)
          | (refine wv h (r_pick_false h rfl rfl) rfl ?_)
          | (refine wv h (r_pick h rfl rfl rfl) rfl ?_)
        clear h a w; intro a w h
        refine wv h (r_assign h rfl) rfl ?_
        clear h a w; intro a w h
        refine wnil (c_then ?_)
        refine c_ret ?_
        exact ret1 h rfl rfl ⟨(), rfl, h.2.drop 2, trivial⟩
end Go.Proofs.K
