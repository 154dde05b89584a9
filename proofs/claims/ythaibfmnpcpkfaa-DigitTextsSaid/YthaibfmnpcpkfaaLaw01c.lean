/- The law on texts and bytes, one behind the other, and back: its walk. -/
import Derived.Test.YthaibfmnpcpkfaaLaw01
set_option linter.unusedVariables false
set_option linter.unusedSimpArgs false
set_option maxRecDepth 10000
namespace Go.Proofs.K
open Go.Sl

theorem encT_len : ∀ (l : List (List UInt8)), (∀ x ∈ l, x.length ≤ 200) → (encT l).length ≤ 209 * l.length
  | [], _ => by simp [encT]
  | x :: l, h => by
    have h1 := encT_len l (fun y hy => h y (List.mem_cons_of_mem _ hy))
    have h2 := h x (List.mem_cons_self)
    have h3 := numN_len9 x.length (by omega)
    simp only [encT, List.flatMap_cons, List.length_append, List.length_cons] at h1 ⊢
    omega
theorem encT_snoc (l : List (List UInt8)) (x : List UInt8) : encT (l ++ [x]) = encT l ++ (numN x.length ++ x) := by simp [encT]
theorem eyeRaw_all (p : List UInt8) : eyeRaw (0, p) (p.length : Int) = (p, (0, [])) := by
  by_cases hp : p.length = 0
  · have := List.eq_nil_of_length_eq_zero hp
    subst this; simp [eyeRaw]
  · simp only [eyeRaw]
    rw [if_neg (by rintro (hh | hh); exact hh rfl; omega), if_neg (by omega)]
    simp

theorem digitTexts (s w : World) (v vp : Value) (l : List (List UInt8)) (p : List UInt8) (most : UInt8) (F : List HItem) (hv : Views F 1 v l.length (svs l)) (hvp : ViewsB F vp p) (hs : Sat s w F) :
    Calls P n_law01_DigitTexts #[v, vp, bv most] w (Ret s (fun _ : Unit => .bool true) (fun _ => F) (fun _ => True)) := by
  have hmm := most.toNat_lt
  by_cases hl8 : l.length ≤ 8
  rotate_left
  · have e8 : decide ((8 : Int) < (l.length : Int)) = true := decide_eq_true (by omega)
    refine enter K.fn_law01_DigitTexts rfl K.nt_law01_DigitTexts rfl hs ?_
    clear hs w; intro a w h
    refine c_seq (c_region ?_)
    refine wv h (r_assign h rfl) rfl ?_
    clear h a w; intro a w h
    refine wnil (c_then ?_)
    refine c_seq ?_
    refine c_seq (c_region ?_)
    refine wl rfl (op_call h rfl K.go_law01_awake (awake01 s _ _ h.2) rfl ?_)
    clear h a w; intro x a w hx h
    refine wv h (r_not h rfl) rfl ?_
    clear h a w; intro a w h
    refine wv h (r_move h rfl) rfl ?_
    clear h a w; intro a w h
    first
      | (refine wvg h (r_move h rfl) rfl rfl ?_)
      | (refine wvs h rfl rfl ?_)
    clear h a w; intro a w h
    refine wvg h (r_lenV h rfl K.u_S_string hv) rfl rfl ?_
    clear h a w; intro a w h
    first
      | (refine wvg h (r_bin h rfl rfl (B.gtr_int)) rfl rfl ?_)
      | (refine wvs h rfl rfl ?_)
    clear h a w; intro a w h
    rw [e8] at h
    first
      | (refine wv h (r_pick_true h rfl rfl) rfl ?_)
      | (refine wv h (r_pick_false h rfl rfl) rfl ?_)
      | (refine wv h (r_pick h rfl rfl rfl) rfl ?_)
    clear h a w; intro a w h
    refine wv h (r_move h rfl) rfl ?_
    clear h a w; intro a w h
    first
      | (refine wvg h (r_move h rfl) rfl rfl ?_)
      | (refine wvs h rfl rfl ?_)
    clear h a w; intro a w h
    first
      | (refine wvg h (r_lenV h rfl K.u_S_uint8 (by first | assumption | exact Views.own 0 rfl | exact Views.own 1 rfl | exact Views.own 2 rfl | exact Views.own 3 rfl)) rfl rfl ?_)
      | (refine wvs h rfl rfl ?_)
    clear h a w; intro a w h
    first
      | (refine wvg h (r_bin h rfl rfl (B.gtr_int)) rfl rfl ?_)
      | (refine wvs h rfl rfl ?_)
    clear h a w; intro a w h
    first
      | (refine wv h (r_pick_true h rfl rfl) rfl ?_)
      | (refine wv h (r_pick_false h rfl rfl) rfl ?_)
      | (refine wv h (r_pick h rfl rfl rfl) rfl ?_)
    clear h a w; intro a w h
    refine wnil (c_then ?_)
    refine c_true h rfl ?_
    refine c_seq (c_region ?_)
    refine wl rfl (op_call h rfl K.go_law01_awake (awake01 s _ _ h.2) rfl ?_)
    clear h a w; intro x a w hx h
    refine wv h (r_assign h rfl) rfl ?_
    clear h a w; intro a w h
    refine wnil (c_then ?_)
    refine c_ret ?_
    exact ret1 h rfl rfl ⟨(), rfl, h.2, trivial⟩
  · have e8 : decide ((8 : Int) < (l.length : Int)) = false := decide_eq_false (by omega)
    refine enter K.fn_law01_DigitTexts rfl K.nt_law01_DigitTexts rfl hs ?_
    clear hs w; intro a w h
    refine c_seq (c_region ?_)
    refine wv h (r_assign h rfl) rfl ?_
    clear h a w; intro a w h
    refine wnil (c_then ?_)
    refine c_seq ?_
    refine c_seq (c_region ?_)
    refine wl rfl (op_call h rfl K.go_law01_awake (awake01 s _ _ h.2) rfl ?_)
    clear h a w; intro x a w hx h
    refine wv h (r_not h rfl) rfl ?_
    clear h a w; intro a w h
    refine wv h (r_move h rfl) rfl ?_
    clear h a w; intro a w h
    first
      | (refine wvg h (r_move h rfl) rfl rfl ?_)
      | (refine wvs h rfl rfl ?_)
    clear h a w; intro a w h
    refine wvg h (r_lenV h rfl K.u_S_string hv) rfl rfl ?_
    clear h a w; intro a w h
    first
      | (refine wvg h (r_bin h rfl rfl (B.gtr_int)) rfl rfl ?_)
      | (refine wvs h rfl rfl ?_)
    clear h a w; intro a w h
    rw [e8] at h
    first
      | (refine wv h (r_pick_true h rfl rfl) rfl ?_)
      | (refine wv h (r_pick_false h rfl rfl) rfl ?_)
      | (refine wv h (r_pick h rfl rfl rfl) rfl ?_)
    clear h a w; intro a w h
    refine wv h (r_move h rfl) rfl ?_
    clear h a w; intro a w h
    first
      | (refine wvg h (r_move h rfl) rfl rfl ?_)
      | (refine wvs h rfl rfl ?_)
    clear h a w; intro a w h
    refine wvg h (r_lenB h rfl K.u_S_uint8 hvp) rfl rfl ?_
    clear h a w; intro a w h
    first
      | (refine wvg h (r_bin h rfl rfl (B.gtr_int)) rfl rfl ?_)
      | (refine wvs h rfl rfl ?_)
    clear h a w; intro a w h
    first
      | (refine wv h (r_pick_true h rfl rfl) rfl ?_)
      | (refine wv h (r_pick_false h rfl rfl) rfl ?_)
      | (refine wv h (r_pick h rfl rfl rfl) rfl ?_)
    clear h a w; intro a w h
    refine wnil (c_then ?_)
    refine c_condD h rfl (fun ht1 => ?_) (fun ht1 => ?_)
    ·
      refine c_seq (c_region ?_)
      refine wl rfl (op_call h rfl K.go_law01_awake (awake01 s _ _ h.2) rfl ?_)
      clear h a w; intro x a w hx h
      refine wv h (r_assign h rfl) rfl ?_
      clear h a w; intro a w h
      refine wnil (c_then ?_)
      refine c_ret ?_
      exact ret1 h rfl rfl ⟨(), rfl, h.2, trivial⟩
    ·
      have hp50 : p.length ≤ 50 := by omega
      refine c_skip ?_
      refine c_then ?_
      refine c_seq (c_region ?_)
      refine wv h (r_build h K.u_digit_Pen K.z_digit_Pen K.pl_digit_Pen rfl rfl) rfl ?_
      clear h a w; intro a w h
      refine wl rfl (op_box h rfl rfl ?_)
      clear h a w; intro b a w h
      refine wv h (r_assign h rfl) rfl ?_
      clear h a w; intro a w h
      replace h := ((h.addNilb).addNilb).front 2 rfl
      refine wnil (c_then ?_)
      refine c_seq (c_region ?_)
      refine wv h (r_assign h rfl) rfl ?_
      clear h a w; intro a w h
      refine wnil (c_then ?_)
      refine c_seq ?_
      refine c_seq (c_region ?_)
      refine wv h (r_assign h rfl) rfl ?_
      clear h a w; intro a w h
      refine wnil (c_then ?_)
      refine c_block ?_
      refine c_loop (X := Nat × Value × Value) (fun x => [(0, v), (1, vp), (2, bv most), (7, .pointer (some ⟨b, 0, none⟩)), (8, x.2.2), (9, .int .i64 (x.1 : Int))])
        (fun x => Blk b (.cells #[x.2.1] t_digit_Pen) :: OwnB x.2.1 (encT (l.take x.1)) :: OwnB x.2.2 (encT (l.take x.1)) :: F)
        (fun x => x.1 ≤ l.length ∧ ∀ y ∈ l.take x.1, y.length ≤ 200) (fun x => l.length - x.1) (0, .slice none 0 0, .slice none 0 0) (h.keep [0, 1, 2, 7, 8, 9]) (by simp) ?_
      clear h a w; intro x a w hx h
      obtain ⟨i, pv, nw⟩ := x
      simp only at hx h
      obtain ⟨hx1, hx2⟩ := hx
      have hel := encT_len _ hx2
      rw [List.length_take] at hel
      refine c_seq ?_
      refine c_seq (c_region ?_)
      refine wv h (r_move h rfl) rfl ?_
      clear h a w; intro a w h
      refine wv h (r_move h rfl) rfl ?_
      clear h a w; intro a w h
      refine wv h (r_lenV h rfl K.u_S_string (Views.of_drop 3 hv)) rfl ?_
      clear h a w; intro a w h
      refine wv h (r_bin h rfl rfl (B.lss_int)) rfl ?_
      clear h a w; intro a w h
      refine wnil (c_then ?_)
      refine c_condD h rfl (fun ht2 => ?_) (fun ht2 => ?_)
      ·
        obtain ⟨m, hm⟩ : ∃ m, l[i]? = some m := ⟨l[i]'(by omega), by simp⟩
        have hte := take_snoc hm
        refine c_skip ?_
        refine c_then ?_
        refine c_seq ?_
        refine c_block ?_
        refine c_seq ?_
        refine c_seq (c_region ?_)
        refine wv h (r_move h rfl) rfl ?_
        clear h a w; intro a w h
        refine wv h (r_move h rfl) rfl ?_
        clear h a w; intro a w h
        refine wl rfl (op_indexAddr1 h rfl rfl K.u_S_string K.sz_string (Views.of_drop 3 hv) i rfl (svs_get hm) rfl ?_)
        clear h a w; intro q a w hp h
        first
          | (refine wv h (r_load h rfl K.u_string rfl 0 rfl rfl) rfl ?_)
          | (refine wv h (r_load h rfl K.u_string rfl 1 rfl rfl) rfl ?_)
          | (refine wv h (r_load h rfl K.u_string rfl 2 rfl rfl) rfl ?_)
          | (refine wv h (r_load h rfl K.u_string rfl 3 rfl rfl) rfl ?_)
          | (refine wv h (r_load h rfl K.u_string rfl 4 rfl rfl) rfl ?_)
          | (refine wv h (r_load h rfl K.u_string rfl 5 rfl rfl) rfl ?_)
          | (refine wv h (r_load1 h rfl K.u_string rfl (by assumption)) rfl ?_)
        clear h a w; intro a w h
        refine wv h (r_lenT h rfl K.u_string) rfl ?_
        clear h a w; intro a w h
        refine wv h (r_bin h rfl rfl (B.gtr_int)) rfl ?_
        clear h a w; intro a w h
        refine wnil (c_then ?_)
        refine c_condD h rfl (fun ht3 => ?_) (fun ht3 => ?_)
        ·
          refine c_seq (c_region ?_)
          refine wv h (r_assign h rfl) rfl ?_
          clear h a w; intro a w h
          refine wnil (c_then ?_)
          refine c_ret ?_
          exact ret1 h rfl rfl ⟨(), rfl, h.2.drop 3, trivial⟩
        ·
          have hm2 : m.length ≤ 200 := by omega
          refine c_skip ?_
          refine c_then ?_
          refine c_seq (c_region ?_)
          refine wv h (r_move h rfl) rfl ?_
          clear h a w; intro a w h
          refine wv h (r_move h rfl) rfl ?_
          clear h a w; intro a w h
          refine wv h (r_move h rfl) rfl ?_
          clear h a w; intro a w h
          refine wl rfl (op_indexAddr1 h rfl rfl K.u_S_string K.sz_string (Views.of_drop 3 hv) i rfl (svs_get hm) rfl ?_)
          clear h a w; intro q a w hp h
          first
            | (refine wv h (r_load h rfl K.u_string rfl 0 rfl rfl) rfl ?_)
            | (refine wv h (r_load h rfl K.u_string rfl 1 rfl rfl) rfl ?_)
            | (refine wv h (r_load h rfl K.u_string rfl 2 rfl rfl) rfl ?_)
            | (refine wv h (r_load h rfl K.u_string rfl 3 rfl rfl) rfl ?_)
            | (refine wv h (r_load h rfl K.u_string rfl 4 rfl rfl) rfl ?_)
            | (refine wv h (r_load h rfl K.u_string rfl 5 rfl rfl) rfl ?_)
            | (refine wv h (r_load1 h rfl K.u_string rfl (by assumption)) rfl ?_)
          clear h a w; intro a w h
          refine wl rfl (op_call h rfl K.go_digit_Pen_Text (pen_text s _ b 0 _ _ pv (encT (l.take i)) m _ rfl (by omega) h.2) rfl ?_)
          clear h a w; intro pv2 a w hx3 h
          refine wnil (c_then ?_)
          refine c_region ?_
          refine wv h (r_move h rfl) rfl ?_
          clear h a w; intro a w h
          refine wv h (r_move h rfl) rfl ?_
          clear h a w; intro a w h
          refine wv h (r_move h rfl) rfl ?_
          clear h a w; intro a w h
          refine wl rfl (op_indexAddr1 h rfl rfl K.u_S_string K.sz_string (Views.of_drop 3 hv) i rfl (svs_get hm) rfl ?_)
          clear h a w; intro q a w hp h
          first
            | (refine wv h (r_load h rfl K.u_string rfl 0 rfl rfl) rfl ?_)
            | (refine wv h (r_load h rfl K.u_string rfl 1 rfl rfl) rfl ?_)
            | (refine wv h (r_load h rfl K.u_string rfl 2 rfl rfl) rfl ?_)
            | (refine wv h (r_load h rfl K.u_string rfl 3 rfl rfl) rfl ?_)
            | (refine wv h (r_load h rfl K.u_string rfl 4 rfl rfl) rfl ?_)
            | (refine wv h (r_load h rfl K.u_string rfl 5 rfl rfl) rfl ?_)
            | (refine wv h (r_load1 h rfl K.u_string rfl (by assumption)) rfl ?_)
          clear h a w; intro a w h
          refine wl rfl (op_call h rfl K.go_ref01_Text (ref_text s _ m _ (by omega) h.2) rfl ?_)
          clear h a w; intro nv a w hx4 h
          refine wl rfl (op_appendbs h rfl rfl K.u_S_uint8 K.sz_uint8 K.z_uint8 rfl rfl 3 rfl (Src.bytes K.u_S_uint8 (ViewsB.own 0 rfl) h.2) (by have := numN_len9 m.length (by omega); rw [List.length_append]; omega) rfl ?_)
          clear h a w; intro nw2 a w h
          refine wv h (r_assign h rfl) rfl ?_
          clear h a w; intro a w h
          refine wnil ?_
          refine b_normal ?_
          refine c_then ?_
          refine c_region ?_
          refine wv h (r_move h rfl) rfl ?_
          clear h a w; intro a w h
          refine wv h (r_bin h rfl rfl (B.add_i64 (by omega) (by omega))) rfl ?_
          clear h a w; intro a w h
          refine wv h (r_assign h rfl) rfl ?_
          clear h a w; intro a w h
          refine wnil ?_
          refine ⟨(i + 1, pv2, nw2), ?_, ⟨?_, ?_⟩, ?_⟩
          · have := (h.drop 1).keep [0, 1, 2, 7, 8, 9]
            simp only [hte, encT_snoc]
            exact this
          · show i + 1 ≤ l.length; omega
          · show ∀ y ∈ l.take (i + 1), y.length ≤ 200
            intro y hy
            rw [hte, List.mem_append] at hy
            rcases hy with hy | hy
            · exact hx2 y hy
            · rw [List.mem_singleton] at hy; subst hy; exact hm2
          · show l.length - (i + 1) < l.length - i; omega
      ·
        have hil : i = l.length := by omega
        subst hil
        rw [List.take_length] at h hx2
        replace hel := encT_len l hx2
        refine c_exit ?_
        refine e_then ?_
        refine e_then ?_
        refine e_here ?_
        refine c_then ?_
        refine c_seq (c_region ?_)
        refine wv h (r_move h rfl) rfl ?_
        clear h a w; intro a w h
        refine wv h (r_move h rfl) rfl ?_
        clear h a w; intro a w h
        refine wl rfl (op_call h rfl K.go_digit_Pen_Raw (pen_raw s _ b 0 _ _ pv vp (encT l) p _ rfl (by omega) (ViewsB.cons hvp _) h.2) rfl ?_)
        clear h a w; intro pv2 a w hx3 h
        refine wnil (c_then ?_)
        refine c_seq ?_
        refine c_seq (c_draw K.mixed (by kernel_rfl) h ?_)
        clear h a w; intro a hE
        refine qv hE (fun w hw => r_move ⟨hE, hw⟩ rfl) rfl ?_
        clear hE a; intro a hE
        refine qv hE (fun w hw => r_nilCheck ⟨hE, hw⟩ rfl) rfl ?_
        clear hE a; intro a hE
        refine qv hE (fun w hw => r_fieldAddr0 ⟨hE, hw⟩ rfl K.u_digit_Pen rfl K.sz_S_uint8 rfl rfl) rfl ?_
        clear hE a; intro a hE
        first
          | (refine qv hE (fun w hw => r_load ⟨hE, hw⟩ rfl K.u_S_uint8 rfl 0 rfl rfl) rfl ?_)
          | (refine qv hE (fun w hw => r_load ⟨hE, hw⟩ rfl K.u_S_uint8 rfl 1 rfl rfl) rfl ?_)
          | (refine qv hE (fun w hw => r_load ⟨hE, hw⟩ rfl K.u_S_uint8 rfl 2 rfl rfl) rfl ?_)
          | (refine qv hE (fun w hw => r_load ⟨hE, hw⟩ rfl K.u_S_uint8 rfl 3 rfl rfl) rfl ?_)
          | (refine qv hE (fun w hw => r_load ⟨hE, hw⟩ rfl K.u_S_uint8 rfl 4 rfl rfl) rfl ?_)
          | (refine qv hE (fun w hw => r_load ⟨hE, hw⟩ rfl K.u_S_uint8 rfl 5 rfl rfl) rfl ?_)
          | (refine qv hE (fun w hw => r_load1 ⟨hE, hw⟩ rfl K.u_S_uint8 rfl (by assumption)) rfl ?_)
        clear hE a; intro a hE
        refine qv hE (fun w hw => r_b2sb ⟨hE, hw⟩ rfl K.u_S_uint8 K.u_uint8 K.u_string (ViewsB.own 1 rfl)) rfl ?_
        clear hE a; intro a hE
        refine qv hE (fun w hw => r_move ⟨hE, hw⟩ rfl) rfl ?_
        clear hE a; intro a hE
        refine qv hE (fun w hw => r_b2sb ⟨hE, hw⟩ rfl K.u_S_uint8 K.u_uint8 K.u_string (ViewsB.own 2 rfl)) rfl ?_
        clear hE a; intro a hE
        refine qv hE (fun w hw => r_move ⟨hE, hw⟩ rfl) rfl ?_
        clear hE a; intro a hE
        refine qv hE (fun w hw => r_b2sb ⟨hE, hw⟩ rfl K.u_S_uint8 K.u_uint8 K.u_string (((hvp.cons _).cons _).cons _)) rfl ?_
        clear hE a; intro a hE
        refine qv hE (fun w hw => r_strcat ⟨hE, hw⟩ rfl rfl (by omega)) rfl ?_
        clear hE a; intro a hE
        refine qv hE (fun w hw => r_strne ⟨hE, hw⟩ rfl rfl) rfl ?_
        clear hE a; intro a hE
        have e1 : decide (encT l ++ p ≠ encT l ++ p) = false := by simp
        rw [e1] at hE
        refine qnil hE ?_
        clear hE a; intro a w h
        refine c_then ?_
        refine c_false h rfl ?_
        refine c_skip ?_
        refine c_then ?_
        refine c_seq (c_region ?_)
        refine wv h (r_move h rfl) rfl ?_
        clear h a w; intro a w h
        refine wv h (r_nilCheck h rfl) rfl ?_
        clear h a w; intro a w h
        refine wv h (r_fieldAddr0 h rfl K.u_digit_Pen rfl K.sz_S_uint8 rfl rfl) rfl ?_
        clear h a w; intro a w h
        first
          | (refine wv h (r_load h rfl K.u_S_uint8 rfl 0 rfl rfl) rfl ?_)
          | (refine wv h (r_load h rfl K.u_S_uint8 rfl 1 rfl rfl) rfl ?_)
          | (refine wv h (r_load h rfl K.u_S_uint8 rfl 2 rfl rfl) rfl ?_)
          | (refine wv h (r_load h rfl K.u_S_uint8 rfl 3 rfl rfl) rfl ?_)
          | (refine wv h (r_load h rfl K.u_S_uint8 rfl 4 rfl rfl) rfl ?_)
          | (refine wv h (r_load h rfl K.u_S_uint8 rfl 5 rfl rfl) rfl ?_)
          | (refine wv h (r_load1 h rfl K.u_S_uint8 rfl (by assumption)) rfl ?_)
        clear h a w; intro a w h
        refine wl rfl (op_call h rfl K.go_digit_NewEye (new_eye s _ pv2 (encT l ++ p) _ (by rw [List.length_append]; omega) (ViewsB.own 1 rfl) h.2) rfl ?_)
        clear h a w; intro x a w hx h
        obtain ⟨b2, ev⟩ := x
        replace h := ((((h.front 3 rfl).drop 1).front 3 rfl).drop 1).front 2 rfl
        replace h := (h.drop 1)
        refine wv h (r_assign h rfl) rfl ?_
        clear h a w; intro a w h
        refine wnil (c_then ?_)
        refine c_seq ?_
        refine c_seq (c_region ?_)
        refine wv h (r_assign h rfl) rfl ?_
        clear h a w; intro a w h
        refine wnil (c_then ?_)
        refine c_block ?_
        refine c_loop (X := Nat × Value) (fun x => [(0, v), (1, vp), (2, bv most), (10, .pointer (some ⟨b2, 0, none⟩)), (11, .int .i64 (x.1 : Int))])
          (fun x => Blk b2 (.cells #[x.2, .int .i64 0] t_digit_Eye) :: OwnB x.2 (encT (l.drop x.1) ++ p) :: F)
          (fun x => x.1 ≤ l.length) (fun x => l.length - x.1) (0, ev) (h.keep [0, 1, 2, 10, 11]) (by simp) ?_
        clear h a w; intro x a w hx h
        obtain ⟨i, ev⟩ := x
        simp only at hx h
        refine c_seq ?_
        refine c_seq (c_region ?_)
        refine wv h (r_move h rfl) rfl ?_
        clear h a w; intro a w h
        refine wv h (r_move h rfl) rfl ?_
        clear h a w; intro a w h
        refine wv h (r_lenV h rfl K.u_S_string (Views.of_drop 2 hv)) rfl ?_
        clear h a w; intro a w h
        refine wv h (r_bin h rfl rfl (B.lss_int)) rfl ?_
        clear h a w; intro a w h
        refine wnil (c_then ?_)
        refine c_condD h rfl (fun ht5 => ?_) (fun ht5 => ?_)
        ·
          obtain ⟨m, hm⟩ : ∃ m, l[i]? = some m := ⟨l[i]'(by omega), by simp⟩
          have hde := drop_cons hm
          have hm2 : m.length ≤ 200 := hx2 m (List.mem_of_getElem? hm)
          have hdl : (encT (l.drop i) ++ p).length ≤ 2000 := by
            have := encT_len (l.drop i) (fun y hy => hx2 y (List.mem_of_mem_drop hy))
            rw [List.length_drop] at this
            rw [List.length_append]; omega
          have hee : eyeText (0, encT (l.drop i) ++ p) (most.toNat : Int) = if (most.toNat : Int) < (m.length : Int) then ([], (5, [])) else (m, (0, encT (l.drop (i + 1)) ++ p)) := by
            have e1 : encT (l.drop i) ++ p = (numN m.length ++ m) ++ (encT (l.drop (i + 1)) ++ p) := by rw [hde]; simp [encT]
            rw [e1]
            exact eyeText_enc m _ _ (by omega) (by omega)
          refine c_skip ?_
          refine c_then ?_
          refine c_seq ?_
          refine c_block ?_
          refine c_seq (c_region ?_)
          refine wv h (r_move h rfl) rfl ?_
          clear h a w; intro a w h
          refine wv h (r_move h rfl) rfl ?_
          clear h a w; intro a w h
          refine wv h (r_conv h rfl K.u_uint8 K.u_int (C.i64_u8) ) rfl ?_
          clear h a w; intro a w h
          refine wl rfl (op_call h rfl K.go_digit_Eye_Text (eye_text s _ b2 _ ev _ 0 (most.toNat : Int) _ (by omega) (by omega) (by omega) h.2) rfl ?_)
          clear h a w; intro ev2 a w hx5 h
          rw [hee] at h
          refine wv h (r_assign h rfl) rfl ?_
          clear h a w; intro a w h
          refine wnil (c_then ?_)
          refine c_seq ?_
          refine c_seq (c_region ?_)
          refine wv h (r_move h rfl) rfl ?_
          clear h a w; intro a w h
          refine wv h (r_move h rfl) rfl ?_
          clear h a w; intro a w h
          refine wl rfl (op_indexAddr1 h rfl rfl K.u_S_string K.sz_string (Views.of_drop 2 hv) i rfl (svs_get hm) rfl ?_)
          clear h a w; intro q a w hp h
          first
            | (refine wv h (r_load h rfl K.u_string rfl 0 rfl rfl) rfl ?_)
            | (refine wv h (r_load h rfl K.u_string rfl 1 rfl rfl) rfl ?_)
            | (refine wv h (r_load h rfl K.u_string rfl 2 rfl rfl) rfl ?_)
            | (refine wv h (r_load h rfl K.u_string rfl 3 rfl rfl) rfl ?_)
            | (refine wv h (r_load h rfl K.u_string rfl 4 rfl rfl) rfl ?_)
            | (refine wv h (r_load h rfl K.u_string rfl 5 rfl rfl) rfl ?_)
            | (refine wv h (r_load1 h rfl K.u_string rfl (by assumption)) rfl ?_)
          clear h a w; intro a w h
          refine wv h (r_lenT h rfl K.u_string) rfl ?_
          clear h a w; intro a w h
          refine wv h (r_move h rfl) rfl ?_
          clear h a w; intro a w h
          refine wv h (r_conv h rfl K.u_uint8 K.u_int (C.i64_u8) ) rfl ?_
          clear h a w; intro a w h
          refine wv h (r_bin h rfl rfl (B.gtr_int)) rfl ?_
          clear h a w; intro a w h
          refine wnil (c_then ?_)
          refine c_condD h rfl (fun ht6 => ?_) (fun ht6 => ?_)
          ·
            rw [if_pos ht6] at h
            refine c_seq (c_region ?_)
            refine wv h (r_move h rfl) rfl ?_
            clear h a w; intro a w h
            refine wv h (r_streq (l := []) (m := []) h rfl rfl) rfl ?_
            clear h a w; intro a w h
            rw [decide_eq_true rfl] at h
            refine wv h (r_move h rfl) rfl ?_
            clear h a w; intro a w h
            first
              | (refine wvg h (r_move h rfl) rfl rfl ?_)
              | (refine wvs h rfl rfl ?_)
            clear h a w; intro a w h
            refine wlg h rfl rfl (op_call h rfl K.go_digit_Eye_Fault (eye_fault s _ b2 _ ev2 5 _ h.2) rfl ?_)
            clear h a w; intro x a w hx h
            first
              | (refine wvg h (r_bin h rfl rfl (B.eql_int)) rfl rfl ?_)
              | (refine wvs h rfl rfl ?_)
            clear h a w; intro a w h
            have e3 : decide ((5 : Int) = 5) = true := by decide
            rw [e3] at h
            first
              | (refine wv h (r_pick_true h rfl rfl) rfl ?_)
              | (refine wv h (r_pick_false h rfl rfl) rfl ?_)
              | (refine wv h (r_pick h rfl rfl rfl) rfl ?_)
            clear h a w; intro a w h
            refine wv h (r_assign h rfl) rfl ?_
            clear h a w; intro a w h
            refine wnil (c_then ?_)
            refine c_ret ?_
            exact ret1 h rfl rfl ⟨(), rfl, h.2.drop 2, trivial⟩
          ·
            rw [if_neg ht6] at h
            refine c_skip ?_
            refine c_then ?_
            refine c_seq (c_region ?_)
            refine wv h (r_move h rfl) rfl ?_
            clear h a w; intro a w h
            refine wv h (r_move h rfl) rfl ?_
            clear h a w; intro a w h
            refine wv h (r_move h rfl) rfl ?_
            clear h a w; intro a w h
            refine wl rfl (op_indexAddr1 h rfl rfl K.u_S_string K.sz_string (Views.of_drop 2 hv) i rfl (svs_get hm) rfl ?_)
            clear h a w; intro q a w hp h
            first
              | (refine wv h (r_load h rfl K.u_string rfl 0 rfl rfl) rfl ?_)
              | (refine wv h (r_load h rfl K.u_string rfl 1 rfl rfl) rfl ?_)
              | (refine wv h (r_load h rfl K.u_string rfl 2 rfl rfl) rfl ?_)
              | (refine wv h (r_load h rfl K.u_string rfl 3 rfl rfl) rfl ?_)
              | (refine wv h (r_load h rfl K.u_string rfl 4 rfl rfl) rfl ?_)
              | (refine wv h (r_load h rfl K.u_string rfl 5 rfl rfl) rfl ?_)
              | (refine wv h (r_load1 h rfl K.u_string rfl (by assumption)) rfl ?_)
            clear h a w; intro a w h
            refine wv h (r_strne (l := m) (m := m) h rfl rfl) rfl ?_
            clear h a w; intro a w h
            have e5 : decide (m ≠ m) = false := by simp
            rw [e5] at h
            refine wnil (c_then ?_)
            refine c_false h rfl ?_
            refine c_skip ?_
            refine b_normal ?_
            refine c_then ?_
            refine c_region ?_
            refine wv h (r_move h rfl) rfl ?_
            clear h a w; intro a w h
            refine wv h (r_bin h rfl rfl (B.add_i64 (by omega) (by omega))) rfl ?_
            clear h a w; intro a w h
            refine wv h (r_assign h rfl) rfl ?_
            clear h a w; intro a w h
            refine wnil ?_
            refine ⟨(i + 1, ev2), h.keep [0, 1, 2, 10, 11], ?_, ?_⟩
            · show i + 1 ≤ l.length; omega
            · show l.length - (i + 1) < l.length - i; omega
        ·
          have hil : i = l.length := by omega
          subst hil
          rw [List.drop_length, show encT [] ++ p = p from rfl] at h
          refine c_exit ?_
          refine e_then ?_
          refine e_then ?_
          refine e_here ?_
          refine c_then ?_
          refine c_seq (c_held (F) 14 K.mixed rfl h ?_)
          clear h a w; intro a w h
          refine h_take h 0 rfl (by kernel_rfl) (by kernel_rfl) (by kernel_rfl) (fun _ _ _ hh => hh) (by first | exact h.2 | exact h.2.drop 1 | exact h.2.drop 2 | exact h.2.drop 3 | exact h.2.drop 4 | exact h.2.drop 5 | exact h.2.drop 6) (fun w hw => r_move ⟨h.1, hw⟩ rfl) rfl ?_
          clear h a w; intro a w h
          refine h_take h 1 rfl (by kernel_rfl) (by kernel_rfl) (by kernel_rfl) (fun _ _ _ hh => hh) (by first | exact h.2 | exact h.2.drop 1 | exact h.2.drop 2 | exact h.2.drop 3 | exact h.2.drop 4 | exact h.2.drop 5 | exact h.2.drop 6) (fun w hw => r_move ⟨h.1, hw⟩ rfl) rfl ?_
          clear h a w; intro a w h
          refine h_take h 2 rfl (by kernel_rfl) (by kernel_rfl) (by kernel_rfl) (fun _ _ _ hh => hh) (by first | exact h.2 | exact h.2.drop 1 | exact h.2.drop 2 | exact h.2.drop 3 | exact h.2.drop 4 | exact h.2.drop 5 | exact h.2.drop 6) (fun w hw => r_lenB ⟨h.1, hw⟩ rfl K.u_S_uint8 hvp) rfl ?_
          clear h a w; intro a w h
          refine h_take h 5 rfl (by kernel_rfl) (by kernel_rfl) (by kernel_rfl) (fun _ _ _ hh => hh) (by first | exact h.2 | exact h.2.drop 1 | exact h.2.drop 2 | exact h.2.drop 3 | exact h.2.drop 4 | exact h.2.drop 5 | exact h.2.drop 6) (fun w hw => r_move ⟨h.1, hw⟩ rfl) rfl ?_
          clear h a w; intro a w h
          refine h_take h 6 rfl (by kernel_rfl) (by kernel_rfl) (by kernel_rfl) (fun _ _ _ hh => hh) (by first | exact h.2 | exact h.2.drop 1 | exact h.2.drop 2 | exact h.2.drop 3 | exact h.2.drop 4 | exact h.2.drop 5 | exact h.2.drop 6) (fun w hw => r_b2sb ⟨h.1, hw⟩ rfl K.u_S_uint8 K.u_uint8 K.u_string hvp) rfl ?_
          clear h a w; intro a w h
          refine h_only 3 rfl rfl (by kernel_rfl) ?_
          refine op_call h rfl K.go_digit_Eye_Raw (eye_raw s _ b2 _ ev p 0 (p.length : Int) _ (by omega) h.2) rfl ?_
          clear h a w; intro x a w hx h
          obtain ⟨ev3, q⟩ := x
          rw [eyeRaw_all] at h
          replace h := ((h.front 2 rfl).front 2 rfl)
          refine ⟨(by first | exact h.2 | exact h.2.drop 1 | exact h.2.drop 2 | exact h.2.drop 3 | exact h.2.drop 4 | exact h.2.drop 5 | exact h.2.drop 6), ?_⟩
          refine h_only 4 rfl rfl (by kernel_rfl) ?_
          refine op_run h (r_b2sb h rfl K.u_S_uint8 K.u_uint8 K.u_string (ViewsB.own 2 rfl)) rfl h.2 ?_
          clear h a w; intro a w h
          refine ⟨(by first | exact h.2 | exact h.2.drop 1 | exact h.2.drop 2 | exact h.2.drop 3 | exact h.2.drop 4 | exact h.2.drop 5 | exact h.2.drop 6), ?_⟩
          refine h_take h 7 rfl (by kernel_rfl) (by kernel_rfl) (by kernel_rfl) (fun _ _ _ hh => hh) (by first | exact h.2 | exact h.2.drop 1 | exact h.2.drop 2 | exact h.2.drop 3 | exact h.2.drop 4 | exact h.2.drop 5 | exact h.2.drop 6) (fun w hw => r_streq (l := p) (m := p) ⟨h.1, hw⟩ rfl rfl) rfl ?_
          clear h a w; intro a w h
          rw [decide_eq_true rfl] at h
          refine h_take h 8 rfl (by kernel_rfl) (by kernel_rfl) (by kernel_rfl) (fun _ _ _ hh => hh) (by first | exact h.2 | exact h.2.drop 1 | exact h.2.drop 2 | exact h.2.drop 3 | exact h.2.drop 4 | exact h.2.drop 5 | exact h.2.drop 6) (fun w hw => r_move ⟨h.1, hw⟩ rfl) rfl ?_
          clear h a w; intro a w h
          first
            | (refine h_takeg h 9 rfl (by kernel_rfl) (by kernel_rfl) (by kernel_rfl) (fun _ _ _ hh => hh) (by first | exact h.2 | exact h.2.drop 1 | exact h.2.drop 2 | exact h.2.drop 3 | exact h.2.drop 4 | exact h.2.drop 5 | exact h.2.drop 6) (fun w hw => r_move ⟨h.1, hw⟩ rfl) rfl rfl ?_)
            | (refine h_takes h 9 rfl (by kernel_rfl) (by kernel_rfl) (by kernel_rfl) (fun _ _ _ hh => hh) (by first | exact h.2 | exact h.2.drop 1 | exact h.2.drop 2 | exact h.2.drop 3 | exact h.2.drop 4 | exact h.2.drop 5 | exact h.2.drop 6) rfl rfl ?_)
          clear h a w; intro a w h
          refine h_onlyg h 10 rfl rfl rfl (by kernel_rfl) ?_
          refine op_call h rfl K.go_digit_Eye_End (eye_End s _ b2 _ ev3 [] 0 _ h.2) rfl ?_
          clear h a w; intro x a w hx h
          refine ⟨(by first | exact h.2 | exact h.2.drop 1 | exact h.2.drop 2 | exact h.2.drop 3 | exact h.2.drop 4 | exact h.2.drop 5 | exact h.2.drop 6), ?_⟩
          first
            | (refine h_takeg h 11 rfl (by kernel_rfl) (by kernel_rfl) (by kernel_rfl) (fun _ _ _ hh => hh) (by first | exact h.2 | exact h.2.drop 1 | exact h.2.drop 2 | exact h.2.drop 3 | exact h.2.drop 4 | exact h.2.drop 5 | exact h.2.drop 6) (fun w hw => r_bin ⟨h.1, hw⟩ rfl rfl (B.eql_int)) rfl rfl ?_)
            | (refine h_takes h 11 rfl (by kernel_rfl) (by kernel_rfl) (by kernel_rfl) (fun _ _ _ hh => hh) (by first | exact h.2 | exact h.2.drop 1 | exact h.2.drop 2 | exact h.2.drop 3 | exact h.2.drop 4 | exact h.2.drop 5 | exact h.2.drop 6) rfl rfl ?_)
          clear h a w; intro a w h
          have e6 : decide (eyeEnd (0, []) = 0) = true := by decide
          rw [e6] at h
          first
            | (refine h_take h 12 rfl (by kernel_rfl) (by kernel_rfl) (by kernel_rfl) (fun _ _ _ hh => hh) (by first | exact h.2 | exact h.2.drop 1 | exact h.2.drop 2 | exact h.2.drop 3 | exact h.2.drop 4 | exact h.2.drop 5 | exact h.2.drop 6) (fun w hw => r_pick_true ⟨h.1, hw⟩ rfl rfl) rfl ?_)
            | (refine h_take h 12 rfl (by kernel_rfl) (by kernel_rfl) (by kernel_rfl) (fun _ _ _ hh => hh) (by first | exact h.2 | exact h.2.drop 1 | exact h.2.drop 2 | exact h.2.drop 3 | exact h.2.drop 4 | exact h.2.drop 5 | exact h.2.drop 6) (fun w hw => r_pick_false ⟨h.1, hw⟩ rfl rfl) rfl ?_)
            | (refine h_take h 12 rfl (by kernel_rfl) (by kernel_rfl) (by kernel_rfl) (fun _ _ _ hh => hh) (by first | exact h.2 | exact h.2.drop 1 | exact h.2.drop 2 | exact h.2.drop 3 | exact h.2.drop 4 | exact h.2.drop 5 | exact h.2.drop 6) (fun w hw => r_pick ⟨h.1, hw⟩ rfl rfl rfl) rfl ?_)
          clear h a w; intro a w h
          refine h_take h 13 rfl (by kernel_rfl) (by kernel_rfl) (by kernel_rfl) (fun _ _ _ hh => hh) (by first | exact h.2 | exact h.2.drop 1 | exact h.2.drop 2 | exact h.2.drop 3 | exact h.2.drop 4 | exact h.2.drop 5 | exact h.2.drop 6) (fun w hw => r_assign ⟨h.1, hw⟩ rfl) rfl ?_
          clear h a w; intro a w h
          refine h_done (by kernel_rfl) ?_
          refine c_then ?_
          refine c_ret ?_
          exact ret1 h rfl rfl ⟨(), rfl, h.2.drop 3, trivial⟩
end Go.Proofs.K
