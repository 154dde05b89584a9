/- The laws on sums that go with one another, on numbers of four bytes, and on sealed sectors: their walks. -/
import Derived.Test.YthaibfmnpcpkfaaDoorCheckb
set_option linter.unusedVariables false
set_option linter.unusedSimpArgs false
set_option maxRecDepth 10000
namespace Go.Proofs.K
open Go.Sl

theorem check_open (s w : World) (v : Value) (l : List UInt8) (F : List HItem) (hT : HasLines F) (hv : ViewsB F v l) (hs : Sat s w F) :
    Calls P n_check_Open #[v] w (Ret s (fun q : Value => .tuple #[q, .bool (openN l)]) (fun q => OwnB q (if openN l then l.take 60 else []) :: F) (fun _ => True)) := by
  refine enter K.fn_check_Open rfl K.nt_check_Open rfl hs ?_
  clear hs w; intro a w h
  refine c_seq (c_region ?_)
  refine wv h (r_assign h rfl) rfl ?_
  clear h a w; intro a w h
  refine wv h (r_assign h rfl) rfl ?_
  clear h a w; intro a w h
  refine wnil (c_then ?_)
  refine c_seq ?_
  refine c_seq (c_region ?_)
  refine wv h (r_move h rfl) rfl ?_
  clear h a w; intro a w h
  refine wv h (r_lenB h rfl K.u_S_uint8 hv) rfl ?_
  clear h a w; intro a w h
  refine wv h (r_bin h rfl rfl (B.neq_int)) rfl ?_
  clear h a w; intro a w h
  refine wnil (c_then ?_)
  refine c_condD h rfl (fun ht1 => ?_) (fun ht1 => ?_)
  ·
    have ho : openN l = false := by unfold openN; exact decide_eq_false (fun hh => ht1 (by omega))
    rw [ho]
    replace h := h.addNilb
    refine c_seq (c_region ?_)
    refine wv h (r_assign h rfl) rfl ?_
    clear h a w; intro a w h
    refine wv h (r_assign h rfl) rfl ?_
    clear h a w; intro a w h
    refine wnil (c_then ?_)
    refine c_ret ?_
    exact ret2 h rfl rfl rfl ⟨_, rfl, h.2, trivial⟩
  ·
    have hl64 : l.length = 64 := by omega
    have hvv : ViewsB F (subV 1 v 0 60) (l.take 60) := by
      have := ViewsB.sub hv (i := 0) (j := 60) (by omega) (by omega)
      simpa using this
    refine c_skip ?_
    refine c_then ?_
    refine c_seq (c_region ?_)
    refine wv h (r_move h rfl) rfl ?_
    clear h a w; intro a w h
    refine wv h (r_sliceB h rfl K.u_S_uint8 K.sz_uint8 hv 0 60 rfl ⟨_, rfl⟩ (by omega) (by omega)) rfl ?_
    clear h a w; intro a w h
    refine wl rfl (op_appendnbs h rfl rfl K.u_S_uint8 K.sz_uint8 K.z_uint8 rfl rfl (Src.bytes K.u_S_uint8 hvv h.2) (by rw [List.length_take]; omega) rfl ?_)
    clear h a w; intro pv a w h
    refine wv h (r_assign h rfl) rfl ?_
    clear h a w; intro a w h
    refine wnil (c_then ?_)
    refine c_seq ?_
    refine c_seq (c_held (F) 6 K.mixed rfl h ?_)
    clear h a w; intro a w h
    refine h_take h 0 rfl (by kernel_rfl) (by kernel_rfl) (by kernel_rfl) (fun _ _ _ hh => hh) (by first | exact h.2 | exact h.2.drop 1 | exact h.2.drop 2 | exact h.2.drop 3 | exact h.2.drop 4 | exact h.2.drop 5 | exact h.2.drop 6) (fun w hw => r_move ⟨h.1, hw⟩ rfl) rfl ?_
    clear h a w; intro a w h
    refine h_take h 3 rfl (by kernel_rfl) (by kernel_rfl) (by kernel_rfl) (fun _ _ _ hh => hh) (by first | exact h.2 | exact h.2.drop 1 | exact h.2.drop 2 | exact h.2.drop 3 | exact h.2.drop 4 | exact h.2.drop 5 | exact h.2.drop 6) (fun w hw => r_move ⟨h.1, hw⟩ rfl) rfl ?_
    clear h a w; intro a w h
    refine h_take h 4 rfl (by kernel_rfl) (by kernel_rfl) (by kernel_rfl) (fun _ _ _ hh => hh) (by first | exact h.2 | exact h.2.drop 1 | exact h.2.drop 2 | exact h.2.drop 3 | exact h.2.drop 4 | exact h.2.drop 5 | exact h.2.drop 6) (fun w hw => r_b2sb ⟨h.1, hw⟩ rfl K.u_S_uint8 K.u_uint8 K.u_string hv) rfl ?_
    clear h a w; intro a w h
    refine h_only 1 rfl rfl (by kernel_rfl) ?_
    refine op_call h rfl K.go_check_Seal (check_seal s _ pv (l.take 60) _ (CellsAt.cons hT _) (ViewsB.own 0 rfl) h.2) rfl ?_
    clear h a w; intro sv1 a w hx h
    refine ⟨(by first | exact h.2 | exact h.2.drop 1 | exact h.2.drop 2 | exact h.2.drop 3 | exact h.2.drop 4 | exact h.2.drop 5 | exact h.2.drop 6), ?_⟩
    refine h_only 2 rfl rfl (by kernel_rfl) ?_
    refine op_run h (r_b2sb h rfl K.u_S_uint8 K.u_uint8 K.u_string (ViewsB.own 0 rfl)) rfl h.2 ?_
    clear h a w; intro a w h
    refine ⟨(by first | exact h.2 | exact h.2.drop 1 | exact h.2.drop 2 | exact h.2.drop 3 | exact h.2.drop 4 | exact h.2.drop 5 | exact h.2.drop 6), ?_⟩
    refine h_take h 5 rfl (by kernel_rfl) (by kernel_rfl) (by kernel_rfl) (fun _ _ _ hh => hh) (by first | exact h.2 | exact h.2.drop 1 | exact h.2.drop 2 | exact h.2.drop 3 | exact h.2.drop 4 | exact h.2.drop 5 | exact h.2.drop 6) (fun w hw => r_strne (l := sealN (l.take 60)) (m := l) ⟨h.1, hw⟩ rfl rfl) rfl ?_
    clear h a w; intro a w h
    refine h_done (by kernel_rfl) ?_
    refine c_then ?_
    refine c_condD h rfl (fun ht2 => ?_) (fun ht2 => ?_)
    ·
      have ho : openN l = false := by unfold openN; exact decide_eq_false (fun hh => ht2 hh.2)
      rw [ho]
      replace h := (h.drop 2).addNilb
      refine c_seq (c_region ?_)
      refine wv h (r_assign h rfl) rfl ?_
      clear h a w; intro a w h
      refine wv h (r_assign h rfl) rfl ?_
      clear h a w; intro a w h
      refine wnil (c_then ?_)
      refine c_ret ?_
      exact ret2 h rfl rfl rfl ⟨_, rfl, h.2, trivial⟩
    ·
      have ho : openN l = true := by unfold openN; exact decide_eq_true ⟨hl64, Decidable.of_not_not ht2⟩
      rw [ho]
      refine c_skip ?_
      refine c_then ?_
      refine c_seq (c_region ?_)
      refine wv h (r_move h rfl) rfl ?_
      clear h a w; intro a w h
      refine wv h (r_assign h rfl) rfl ?_
      clear h a w; intro a w h
      refine wv h (r_assign h rfl) rfl ?_
      clear h a w; intro a w h
      refine wnil (c_then ?_)
      refine c_ret ?_
      exact ret2 h rfl rfl rfl ⟨pv, rfl, h.2.drop 1, trivial⟩

theorem checkLines (s w : World) (va vb vc : Value) (la lb lc : List UInt8) (F : List HItem) (hT : HasLines F) (hva : ViewsB F va la) (hvb : ViewsB F vb lb) (hvc : ViewsB F vc lc) (hs : Sat s w F) :
    Calls P n_law03_CheckLines #[va, vb, vc] w (Ret s (fun _ : Unit => .bool true) (fun _ => F) (fun _ => True)) := by
  by_cases h1 : la.length ≤ 200
  rotate_left
  · have e1 : decide ((200 : Int) < (la.length : Int)) = true := decide_eq_true (by omega)
    refine enter K.fn_law03_CheckLines rfl K.nt_law03_CheckLines rfl hs ?_
    clear hs w; intro a w h
    refine c_seq (c_region ?_)
    refine wv h (r_assign h rfl) rfl ?_
    clear h a w; intro a w h
    refine wnil (c_then ?_)
    refine c_seq ?_
    refine c_seq (c_region ?_)
    refine wl rfl (op_call h rfl K.go_law03_awake (awake03 s _ _ hT h.2) rfl ?_)
    clear h a w; intro x a w hx h
    refine wv h (r_not h rfl) rfl ?_
    clear h a w; intro a w h
    refine wv h (r_move h rfl) rfl ?_
    clear h a w; intro a w h
    first
      | (refine wvg h (r_move h rfl) rfl rfl ?_)
      | (refine wvs h rfl rfl ?_)
    clear h a w; intro a w h
    refine wvg h (r_lenB h rfl K.u_S_uint8 hva) rfl rfl ?_
    clear h a w; intro a w h
    first
      | (refine wvg h (r_bin h rfl rfl (B.gtr_int)) rfl rfl ?_)
      | (refine wvs h rfl rfl ?_)
    clear h a w; intro a w h
    rw [e1] at h
    first
      | (refine wv h (r_pick_true h rfl rfl) rfl ?_)
      | (refine wv h (r_pick_false h rfl rfl) rfl ?_)
      | (refine wv h (r_pick h rfl rfl rfl) rfl ?_)
    clear h a w; intro a w h
    refine wv h (r_move h rfl) rfl ?_
    clear h a w; intro a w h
    first
      | (refine wvg h (r_move h rfl) rfl rfl ?_)
      | (refine wvs h rfl rfl ?_)
    clear h a w; intro a w h
    first
      | (refine wvg h (r_lenV h rfl K.u_S_uint8 (by first | assumption | exact Views.own 0 rfl | exact Views.own 1 rfl | exact Views.own 2 rfl | exact Views.own 3 rfl)) rfl rfl ?_)
      | (refine wvs h rfl rfl ?_)
    clear h a w; intro a w h
    first
      | (refine wvg h (r_move h rfl) rfl rfl ?_)
      | (refine wvs h rfl rfl ?_)
    clear h a w; intro a w h
    first
      | (refine wvg h (r_lenV h rfl K.u_S_uint8 (by first | assumption | exact Views.own 0 rfl | exact Views.own 1 rfl | exact Views.own 2 rfl | exact Views.own 3 rfl)) rfl rfl ?_)
      | (refine wvs h rfl rfl ?_)
    clear h a w; intro a w h
    first
      | (refine wvg h (r_bin h rfl rfl (B.neq_int)) rfl rfl ?_)
      | (refine wvs h rfl rfl ?_)
    clear h a w; intro a w h
    first
      | (refine wv h (r_pick_true h rfl rfl) rfl ?_)
      | (refine wv h (r_pick_false h rfl rfl) rfl ?_)
      | (refine wv h (r_pick h rfl rfl rfl) rfl ?_)
    clear h a w; intro a w h
    refine wv h (r_move h rfl) rfl ?_
    clear h a w; intro a w h
    first
      | (refine wvg h (r_move h rfl) rfl rfl ?_)
      | (refine wvs h rfl rfl ?_)
    clear h a w; intro a w h
    first
      | (refine wvg h (r_lenV h rfl K.u_S_uint8 (by first | assumption | exact Views.own 0 rfl | exact Views.own 1 rfl | exact Views.own 2 rfl | exact Views.own 3 rfl)) rfl rfl ?_)
      | (refine wvs h rfl rfl ?_)
    clear h a w; intro a w h
    first
      | (refine wvg h (r_move h rfl) rfl rfl ?_)
      | (refine wvs h rfl rfl ?_)
    clear h a w; intro a w h
    first
      | (refine wvg h (r_lenV h rfl K.u_S_uint8 (by first | assumption | exact Views.own 0 rfl | exact Views.own 1 rfl | exact Views.own 2 rfl | exact Views.own 3 rfl)) rfl rfl ?_)
      | (refine wvs h rfl rfl ?_)
    clear h a w; intro a w h
    first
      | (refine wvg h (r_bin h rfl rfl (B.neq_int)) rfl rfl ?_)
      | (refine wvs h rfl rfl ?_)
    clear h a w; intro a w h
    first
      | (refine wv h (r_pick_true h rfl rfl) rfl ?_)
      | (refine wv h (r_pick_false h rfl rfl) rfl ?_)
      | (refine wv h (r_pick h rfl rfl rfl) rfl ?_)
    clear h a w; intro a w h
    refine wnil (c_then ?_)
    refine c_true h rfl ?_
    refine c_seq (c_region ?_)
    refine wl rfl (op_call h rfl K.go_law03_awake (awake03 s _ _ hT h.2) rfl ?_)
    clear h a w; intro x a w hx h
    refine wv h (r_assign h rfl) rfl ?_
    clear h a w; intro a w h
    refine wnil (c_then ?_)
    refine c_ret ?_
    exact ret1 h rfl rfl ⟨(), rfl, h.2, trivial⟩
  have e1 : decide ((200 : Int) < (la.length : Int)) = false := decide_eq_false (by omega)
  by_cases h2 : lb.length = la.length
  rotate_left
  · have e2 : decide ((lb.length : Int) ≠ (la.length : Int)) = true := decide_eq_true (by omega)
    refine enter K.fn_law03_CheckLines rfl K.nt_law03_CheckLines rfl hs ?_
    clear hs w; intro a w h
    refine c_seq (c_region ?_)
    refine wv h (r_assign h rfl) rfl ?_
    clear h a w; intro a w h
    refine wnil (c_then ?_)
    refine c_seq ?_
    refine c_seq (c_region ?_)
    refine wl rfl (op_call h rfl K.go_law03_awake (awake03 s _ _ hT h.2) rfl ?_)
    clear h a w; intro x a w hx h
    refine wv h (r_not h rfl) rfl ?_
    clear h a w; intro a w h
    refine wv h (r_move h rfl) rfl ?_
    clear h a w; intro a w h
    first
      | (refine wvg h (r_move h rfl) rfl rfl ?_)
      | (refine wvs h rfl rfl ?_)
    clear h a w; intro a w h
    refine wvg h (r_lenB h rfl K.u_S_uint8 hva) rfl rfl ?_
    clear h a w; intro a w h
    first
      | (refine wvg h (r_bin h rfl rfl (B.gtr_int)) rfl rfl ?_)
      | (refine wvs h rfl rfl ?_)
    clear h a w; intro a w h
    rw [e1] at h
    first
      | (refine wv h (r_pick_true h rfl rfl) rfl ?_)
      | (refine wv h (r_pick_false h rfl rfl) rfl ?_)
      | (refine wv h (r_pick h rfl rfl rfl) rfl ?_)
    clear h a w; intro a w h
    refine wv h (r_move h rfl) rfl ?_
    clear h a w; intro a w h
    first
      | (refine wvg h (r_move h rfl) rfl rfl ?_)
      | (refine wvs h rfl rfl ?_)
    clear h a w; intro a w h
    refine wvg h (r_lenB h rfl K.u_S_uint8 hvb) rfl rfl ?_
    clear h a w; intro a w h
    first
      | (refine wvg h (r_move h rfl) rfl rfl ?_)
      | (refine wvs h rfl rfl ?_)
    clear h a w; intro a w h
    refine wvg h (r_lenB h rfl K.u_S_uint8 hva) rfl rfl ?_
    clear h a w; intro a w h
    first
      | (refine wvg h (r_bin h rfl rfl (B.neq_int)) rfl rfl ?_)
      | (refine wvs h rfl rfl ?_)
    clear h a w; intro a w h
    rw [e2] at h
    first
      | (refine wv h (r_pick_true h rfl rfl) rfl ?_)
      | (refine wv h (r_pick_false h rfl rfl) rfl ?_)
      | (refine wv h (r_pick h rfl rfl rfl) rfl ?_)
    clear h a w; intro a w h
    refine wv h (r_move h rfl) rfl ?_
    clear h a w; intro a w h
    first
      | (refine wvg h (r_move h rfl) rfl rfl ?_)
      | (refine wvs h rfl rfl ?_)
    clear h a w; intro a w h
    first
      | (refine wvg h (r_lenV h rfl K.u_S_uint8 (by first | assumption | exact Views.own 0 rfl | exact Views.own 1 rfl | exact Views.own 2 rfl | exact Views.own 3 rfl)) rfl rfl ?_)
      | (refine wvs h rfl rfl ?_)
    clear h a w; intro a w h
    first
      | (refine wvg h (r_move h rfl) rfl rfl ?_)
      | (refine wvs h rfl rfl ?_)
    clear h a w; intro a w h
    first
      | (refine wvg h (r_lenV h rfl K.u_S_uint8 (by first | assumption | exact Views.own 0 rfl | exact Views.own 1 rfl | exact Views.own 2 rfl | exact Views.own 3 rfl)) rfl rfl ?_)
      | (refine wvs h rfl rfl ?_)
    clear h a w; intro a w h
    first
      | (refine wvg h (r_bin h rfl rfl (B.neq_int)) rfl rfl ?_)
      | (refine wvs h rfl rfl ?_)
    clear h a w; intro a w h
    first
      | (refine wv h (r_pick_true h rfl rfl) rfl ?_)
      | (refine wv h (r_pick_false h rfl rfl) rfl ?_)
      | (refine wv h (r_pick h rfl rfl rfl) rfl ?_)
    clear h a w; intro a w h
    refine wnil (c_then ?_)
    refine c_true h rfl ?_
    refine c_seq (c_region ?_)
    refine wl rfl (op_call h rfl K.go_law03_awake (awake03 s _ _ hT h.2) rfl ?_)
    clear h a w; intro x a w hx h
    refine wv h (r_assign h rfl) rfl ?_
    clear h a w; intro a w h
    refine wnil (c_then ?_)
    refine c_ret ?_
    exact ret1 h rfl rfl ⟨(), rfl, h.2, trivial⟩
  have e2 : decide ((lb.length : Int) ≠ (la.length : Int)) = false := decide_eq_false (by omega)
  by_cases h3 : lc.length = la.length
  rotate_left
  · have e3 : decide ((lc.length : Int) ≠ (la.length : Int)) = true := decide_eq_true (by omega)
    refine enter K.fn_law03_CheckLines rfl K.nt_law03_CheckLines rfl hs ?_
    clear hs w; intro a w h
    refine c_seq (c_region ?_)
    refine wv h (r_assign h rfl) rfl ?_
    clear h a w; intro a w h
    refine wnil (c_then ?_)
    refine c_seq ?_
    refine c_seq (c_region ?_)
    refine wl rfl (op_call h rfl K.go_law03_awake (awake03 s _ _ hT h.2) rfl ?_)
    clear h a w; intro x a w hx h
    refine wv h (r_not h rfl) rfl ?_
    clear h a w; intro a w h
    refine wv h (r_move h rfl) rfl ?_
    clear h a w; intro a w h
    first
      | (refine wvg h (r_move h rfl) rfl rfl ?_)
      | (refine wvs h rfl rfl ?_)
    clear h a w; intro a w h
    refine wvg h (r_lenB h rfl K.u_S_uint8 hva) rfl rfl ?_
    clear h a w; intro a w h
    first
      | (refine wvg h (r_bin h rfl rfl (B.gtr_int)) rfl rfl ?_)
      | (refine wvs h rfl rfl ?_)
    clear h a w; intro a w h
    rw [e1] at h
    first
      | (refine wv h (r_pick_true h rfl rfl) rfl ?_)
      | (refine wv h (r_pick_false h rfl rfl) rfl ?_)
      | (refine wv h (r_pick h rfl rfl rfl) rfl ?_)
    clear h a w; intro a w h
    refine wv h (r_move h rfl) rfl ?_
    clear h a w; intro a w h
    first
      | (refine wvg h (r_move h rfl) rfl rfl ?_)
      | (refine wvs h rfl rfl ?_)
    clear h a w; intro a w h
    refine wvg h (r_lenB h rfl K.u_S_uint8 hvb) rfl rfl ?_
    clear h a w; intro a w h
    first
      | (refine wvg h (r_move h rfl) rfl rfl ?_)
      | (refine wvs h rfl rfl ?_)
    clear h a w; intro a w h
    refine wvg h (r_lenB h rfl K.u_S_uint8 hva) rfl rfl ?_
    clear h a w; intro a w h
    first
      | (refine wvg h (r_bin h rfl rfl (B.neq_int)) rfl rfl ?_)
      | (refine wvs h rfl rfl ?_)
    clear h a w; intro a w h
    rw [e2] at h
    first
      | (refine wv h (r_pick_true h rfl rfl) rfl ?_)
      | (refine wv h (r_pick_false h rfl rfl) rfl ?_)
      | (refine wv h (r_pick h rfl rfl rfl) rfl ?_)
    clear h a w; intro a w h
    refine wv h (r_move h rfl) rfl ?_
    clear h a w; intro a w h
    first
      | (refine wvg h (r_move h rfl) rfl rfl ?_)
      | (refine wvs h rfl rfl ?_)
    clear h a w; intro a w h
    refine wvg h (r_lenB h rfl K.u_S_uint8 hvc) rfl rfl ?_
    clear h a w; intro a w h
    first
      | (refine wvg h (r_move h rfl) rfl rfl ?_)
      | (refine wvs h rfl rfl ?_)
    clear h a w; intro a w h
    refine wvg h (r_lenB h rfl K.u_S_uint8 hva) rfl rfl ?_
    clear h a w; intro a w h
    first
      | (refine wvg h (r_bin h rfl rfl (B.neq_int)) rfl rfl ?_)
      | (refine wvs h rfl rfl ?_)
    clear h a w; intro a w h
    rw [e3] at h
    first
      | (refine wv h (r_pick_true h rfl rfl) rfl ?_)
      | (refine wv h (r_pick_false h rfl rfl) rfl ?_)
      | (refine wv h (r_pick h rfl rfl rfl) rfl ?_)
    clear h a w; intro a w h
    refine wnil (c_then ?_)
    refine c_true h rfl ?_
    refine c_seq (c_region ?_)
    refine wl rfl (op_call h rfl K.go_law03_awake (awake03 s _ _ hT h.2) rfl ?_)
    clear h a w; intro x a w hx h
    refine wv h (r_assign h rfl) rfl ?_
    clear h a w; intro a w h
    refine wnil (c_then ?_)
    refine c_ret ?_
    exact ret1 h rfl rfl ⟨(), rfl, h.2, trivial⟩
  have e3 : decide ((lc.length : Int) ≠ (la.length : Int)) = false := decide_eq_false (by omega)
  have hDl := xor3_len la lb lc h2 h3
  have hcr := crc3 la lb lc h2 h3
  generalize hD : xor3 la lb lc = D at hDl hcr
  refine enter K.fn_law03_CheckLines rfl K.nt_law03_CheckLines rfl hs ?_
  clear hs w; intro a w h
  refine c_seq (c_region ?_)
  refine wv h (r_assign h rfl) rfl ?_
  clear h a w; intro a w h
  refine wnil (c_then ?_)
  refine c_seq ?_
  refine c_seq (c_region ?_)
  refine wl rfl (op_call h rfl K.go_law03_awake (awake03 s _ _ hT h.2) rfl ?_)
  clear h a w; intro x a w hx h
  refine wv h (r_not h rfl) rfl ?_
  clear h a w; intro a w h
  refine wv h (r_move h rfl) rfl ?_
  clear h a w; intro a w h
  first
    | (refine wvg h (r_move h rfl) rfl rfl ?_)
    | (refine wvs h rfl rfl ?_)
  clear h a w; intro a w h
  refine wvg h (r_lenB h rfl K.u_S_uint8 hva) rfl rfl ?_
  clear h a w; intro a w h
  first
    | (refine wvg h (r_bin h rfl rfl (B.gtr_int)) rfl rfl ?_)
    | (refine wvs h rfl rfl ?_)
  clear h a w; intro a w h
  rw [e1] at h
  first
    | (refine wv h (r_pick_true h rfl rfl) rfl ?_)
    | (refine wv h (r_pick_false h rfl rfl) rfl ?_)
    | (refine wv h (r_pick h rfl rfl rfl) rfl ?_)
  clear h a w; intro a w h
  refine wv h (r_move h rfl) rfl ?_
  clear h a w; intro a w h
  first
    | (refine wvg h (r_move h rfl) rfl rfl ?_)
    | (refine wvs h rfl rfl ?_)
  clear h a w; intro a w h
  refine wvg h (r_lenB h rfl K.u_S_uint8 hvb) rfl rfl ?_
  clear h a w; intro a w h
  first
    | (refine wvg h (r_move h rfl) rfl rfl ?_)
    | (refine wvs h rfl rfl ?_)
  clear h a w; intro a w h
  refine wvg h (r_lenB h rfl K.u_S_uint8 hva) rfl rfl ?_
  clear h a w; intro a w h
  first
    | (refine wvg h (r_bin h rfl rfl (B.neq_int)) rfl rfl ?_)
    | (refine wvs h rfl rfl ?_)
  clear h a w; intro a w h
  rw [e2] at h
  first
    | (refine wv h (r_pick_true h rfl rfl) rfl ?_)
    | (refine wv h (r_pick_false h rfl rfl) rfl ?_)
    | (refine wv h (r_pick h rfl rfl rfl) rfl ?_)
  clear h a w; intro a w h
  refine wv h (r_move h rfl) rfl ?_
  clear h a w; intro a w h
  first
    | (refine wvg h (r_move h rfl) rfl rfl ?_)
    | (refine wvs h rfl rfl ?_)
  clear h a w; intro a w h
  refine wvg h (r_lenB h rfl K.u_S_uint8 hvc) rfl rfl ?_
  clear h a w; intro a w h
  first
    | (refine wvg h (r_move h rfl) rfl rfl ?_)
    | (refine wvs h rfl rfl ?_)
  clear h a w; intro a w h
  refine wvg h (r_lenB h rfl K.u_S_uint8 hva) rfl rfl ?_
  clear h a w; intro a w h
  first
    | (refine wvg h (r_bin h rfl rfl (B.neq_int)) rfl rfl ?_)
    | (refine wvs h rfl rfl ?_)
  clear h a w; intro a w h
  rw [e3] at h
  first
    | (refine wv h (r_pick_true h rfl rfl) rfl ?_)
    | (refine wv h (r_pick_false h rfl rfl) rfl ?_)
    | (refine wv h (r_pick h rfl rfl rfl) rfl ?_)
  clear h a w; intro a w h
  refine wnil (c_then ?_)
  refine c_false h rfl ?_
  refine c_skip ?_
  refine c_then ?_
  refine c_seq (c_region ?_)
  refine wv h (r_move h rfl) rfl ?_
  clear h a w; intro a w h
  refine wv h (r_lenB h rfl K.u_S_uint8 hva) rfl ?_
  clear h a w; intro a w h
  refine wl rfl (op_makeSliceb h K.u_S_uint8 K.sz_uint8 K.z_uint8 rfl rfl la.length la.length rfl rfl (by omega) (by omega) rfl rfl ?_)
  clear h a w; intro dv a w h
  rw [← hDl, show List.replicate D.length (0 : UInt8) = D.take 0 ++ List.replicate (D.length - 0) 0 by simp, hDl] at h
  refine wv h (r_assign h rfl) rfl ?_
  clear h a w; intro a w h
  refine wnil (c_then ?_)
  refine c_seq ?_
  refine c_seq (c_region ?_)
  refine wv h (r_assign h rfl) rfl ?_
  clear h a w; intro a w h
  refine wnil (c_then ?_)
  refine c_block ?_
  refine c_loop (X := Nat) (fun i => [(0, va), (1, vb), (2, vc), (7, dv), (8, .int .i64 (i : Int))])
    (fun i => OwnB dv (D.take i ++ List.replicate (la.length - i) 0) :: F) (fun i => i ≤ la.length) (fun i => la.length - i) 0 (h.keep [0, 1, 2, 7, 8]) (by simp) ?_
  clear h a w; intro i a w hx h
  refine c_seq ?_
  refine c_seq (c_region ?_)
  refine wv h (r_move h rfl) rfl ?_
  clear h a w; intro a w h
  refine wv h (r_move h rfl) rfl ?_
  clear h a w; intro a w h
  refine wv h (r_lenB h rfl K.u_S_uint8 (hva.cons _)) rfl ?_
  clear h a w; intro a w h
  refine wv h (r_bin h rfl rfl (B.lss_int)) rfl ?_
  clear h a w; intro a w h
  refine wnil (c_then ?_)
  refine c_condD h rfl (fun ht2 => ?_) (fun ht2 => ?_)
  ·
    obtain ⟨x1, hx1⟩ : ∃ b, la[i]? = some b := ⟨la[i]'(by omega), by simp⟩
    obtain ⟨y1, hy1⟩ : ∃ b, lb[i]? = some b := ⟨lb[i]'(by omega), by simp⟩
    obtain ⟨z1, hz1⟩ : ∃ b, lc[i]? = some b := ⟨lc[i]'(by omega), by simp⟩
    have hd1 : D[i]? = some (x1 ^^^ y1 ^^^ z1) := by rw [← hD]; exact xor3_get hx1 hy1 hz1
    obtain ⟨ga, oa, ca, hga, hca⟩ := ViewsB.cell hva (h.2.drop 1) hx1
    obtain ⟨gb, ob, cb, hgb, hcb⟩ := ViewsB.cell hvb (h.2.drop 1) hy1
    obtain ⟨gc, oc, cc, hgc, hcc⟩ := ViewsB.cell hvc (h.2.drop 1) hz1
    have hfl : (D.take i ++ List.replicate (la.length - i) (0 : UInt8)).length = la.length := by simp; omega
    obtain ⟨u0, hu0⟩ : ∃ b, (D.take i ++ List.replicate (la.length - i) (0 : UInt8))[i]? = some b := ⟨(D.take i ++ List.replicate (la.length - i) (0 : UInt8))[i]'(by omega), by simp⟩
    obtain ⟨gd, od, cd, hgd, hcd⟩ := ViewsB.cell (ViewsB.own 0 rfl) h.2 hu0
    have hsf := set_fill D 0 _ i hd1
    rw [hDl] at hsf
    refine c_skip ?_
    refine c_then ?_
    refine c_seq ?_
    refine c_block ?_
    refine c_held (F) 18 K.mixed rfl h ?_
    clear h a w; intro a w h
    refine h_take h 0 rfl (by kernel_rfl) (by kernel_rfl) (by kernel_rfl) (fun _ _ _ hh => hh) (by first | exact h.2 | exact h.2.drop 1 | exact h.2.drop 2 | exact h.2.drop 3 | exact h.2.drop 4 | exact h.2.drop 5 | exact h.2.drop 6) (fun w hw => r_move ⟨h.1, hw⟩ rfl) rfl ?_
    clear h a w; intro a w h
    refine h_take h 1 rfl (by kernel_rfl) (by kernel_rfl) (by kernel_rfl) (fun _ _ _ hh => hh) (by first | exact h.2 | exact h.2.drop 1 | exact h.2.drop 2 | exact h.2.drop 3 | exact h.2.drop 4 | exact h.2.drop 5 | exact h.2.drop 6) (fun w hw => r_move ⟨h.1, hw⟩ rfl) rfl ?_
    clear h a w; intro a w h
    refine h_take h 2 rfl (by kernel_rfl) (by kernel_rfl) (by kernel_rfl) (fun _ _ _ hh => hh) (by first | exact h.2 | exact h.2.drop 1 | exact h.2.drop 2 | exact h.2.drop 3 | exact h.2.drop 4 | exact h.2.drop 5 | exact h.2.drop 6) (fun w hw => r_move ⟨h.1, hw⟩ rfl) rfl ?_
    clear h a w; intro a w h
    refine h_take h 3 rfl (by kernel_rfl) (by kernel_rfl) (by kernel_rfl) (fun _ _ _ hh => hh) (by first | exact h.2 | exact h.2.drop 1 | exact h.2.drop 2 | exact h.2.drop 3 | exact h.2.drop 4 | exact h.2.drop 5 | exact h.2.drop 6) (fun w hw => r_move ⟨h.1, hw⟩ rfl) rfl ?_
    clear h a w; intro a w h
    refine h_take h 4 rfl (by kernel_rfl) (by kernel_rfl) (by kernel_rfl) (fun _ _ _ hh => hh) (by first | exact h.2 | exact h.2.drop 1 | exact h.2.drop 2 | exact h.2.drop 3 | exact h.2.drop 4 | exact h.2.drop 5 | exact h.2.drop 6) (fun w hw => r_idx ⟨h.1, hw⟩ rfl rfl K.u_S_uint8 K.sz_uint8 hga i rfl (by omega)) rfl ?_
    clear h a w; intro a w h
    refine h_take h 5 rfl (by kernel_rfl) (by kernel_rfl) (by kernel_rfl) (fun _ _ _ hh => hh) (by first | exact h.2 | exact h.2.drop 1 | exact h.2.drop 2 | exact h.2.drop 3 | exact h.2.drop 4 | exact h.2.drop 5 | exact h.2.drop 6) (fun w hw => r_loadC ⟨h.1, hw⟩ rfl K.u_uint8 rfl hca 0 (.inl ⟨rfl, rfl⟩) rfl) rfl ?_
    clear h a w; intro a w h
    refine h_take h 6 rfl (by kernel_rfl) (by kernel_rfl) (by kernel_rfl) (fun _ _ _ hh => hh) (by first | exact h.2 | exact h.2.drop 1 | exact h.2.drop 2 | exact h.2.drop 3 | exact h.2.drop 4 | exact h.2.drop 5 | exact h.2.drop 6) (fun w hw => r_move ⟨h.1, hw⟩ rfl) rfl ?_
    clear h a w; intro a w h
    refine h_take h 7 rfl (by kernel_rfl) (by kernel_rfl) (by kernel_rfl) (fun _ _ _ hh => hh) (by first | exact h.2 | exact h.2.drop 1 | exact h.2.drop 2 | exact h.2.drop 3 | exact h.2.drop 4 | exact h.2.drop 5 | exact h.2.drop 6) (fun w hw => r_move ⟨h.1, hw⟩ rfl) rfl ?_
    clear h a w; intro a w h
    refine h_take h 8 rfl (by kernel_rfl) (by kernel_rfl) (by kernel_rfl) (fun _ _ _ hh => hh) (by first | exact h.2 | exact h.2.drop 1 | exact h.2.drop 2 | exact h.2.drop 3 | exact h.2.drop 4 | exact h.2.drop 5 | exact h.2.drop 6) (fun w hw => r_idx ⟨h.1, hw⟩ rfl rfl K.u_S_uint8 K.sz_uint8 hgb i rfl (by omega)) rfl ?_
    clear h a w; intro a w h
    refine h_take h 9 rfl (by kernel_rfl) (by kernel_rfl) (by kernel_rfl) (fun _ _ _ hh => hh) (by first | exact h.2 | exact h.2.drop 1 | exact h.2.drop 2 | exact h.2.drop 3 | exact h.2.drop 4 | exact h.2.drop 5 | exact h.2.drop 6) (fun w hw => r_loadC ⟨h.1, hw⟩ rfl K.u_uint8 rfl hcb 0 (.inl ⟨rfl, rfl⟩) rfl) rfl ?_
    clear h a w; intro a w h
    refine h_take h 10 rfl (by kernel_rfl) (by kernel_rfl) (by kernel_rfl) (fun _ _ _ hh => hh) (by first | exact h.2 | exact h.2.drop 1 | exact h.2.drop 2 | exact h.2.drop 3 | exact h.2.drop 4 | exact h.2.drop 5 | exact h.2.drop 6) (fun w hw => r_bin ⟨h.1, hw⟩ rfl rfl (B.xor_u8)) rfl ?_
    clear h a w; intro a w h
    refine h_take h 11 rfl (by kernel_rfl) (by kernel_rfl) (by kernel_rfl) (fun _ _ _ hh => hh) (by first | exact h.2 | exact h.2.drop 1 | exact h.2.drop 2 | exact h.2.drop 3 | exact h.2.drop 4 | exact h.2.drop 5 | exact h.2.drop 6) (fun w hw => r_move ⟨h.1, hw⟩ rfl) rfl ?_
    clear h a w; intro a w h
    refine h_take h 12 rfl (by kernel_rfl) (by kernel_rfl) (by kernel_rfl) (fun _ _ _ hh => hh) (by first | exact h.2 | exact h.2.drop 1 | exact h.2.drop 2 | exact h.2.drop 3 | exact h.2.drop 4 | exact h.2.drop 5 | exact h.2.drop 6) (fun w hw => r_move ⟨h.1, hw⟩ rfl) rfl ?_
    clear h a w; intro a w h
    refine h_take h 13 rfl (by kernel_rfl) (by kernel_rfl) (by kernel_rfl) (fun _ _ _ hh => hh) (by first | exact h.2 | exact h.2.drop 1 | exact h.2.drop 2 | exact h.2.drop 3 | exact h.2.drop 4 | exact h.2.drop 5 | exact h.2.drop 6) (fun w hw => r_idx ⟨h.1, hw⟩ rfl rfl K.u_S_uint8 K.sz_uint8 hgc i rfl (by omega)) rfl ?_
    clear h a w; intro a w h
    refine h_take h 14 rfl (by kernel_rfl) (by kernel_rfl) (by kernel_rfl) (fun _ _ _ hh => hh) (by first | exact h.2 | exact h.2.drop 1 | exact h.2.drop 2 | exact h.2.drop 3 | exact h.2.drop 4 | exact h.2.drop 5 | exact h.2.drop 6) (fun w hw => r_loadC ⟨h.1, hw⟩ rfl K.u_uint8 rfl hcc 0 (.inl ⟨rfl, rfl⟩) rfl) rfl ?_
    clear h a w; intro a w h
    refine h_take h 15 rfl (by kernel_rfl) (by kernel_rfl) (by kernel_rfl) (fun _ _ _ hh => hh) (by first | exact h.2 | exact h.2.drop 1 | exact h.2.drop 2 | exact h.2.drop 3 | exact h.2.drop 4 | exact h.2.drop 5 | exact h.2.drop 6) (fun w hw => r_bin ⟨h.1, hw⟩ rfl rfl (B.xor_u8)) rfl ?_
    clear h a w; intro a w h
    refine h_take h 16 rfl (by kernel_rfl) (by kernel_rfl) (by kernel_rfl) (fun _ _ _ hh => hh) (by first | exact h.2 | exact h.2.drop 1 | exact h.2.drop 2 | exact h.2.drop 3 | exact h.2.drop 4 | exact h.2.drop 5 | exact h.2.drop 6) (fun w hw => r_idx ⟨h.1, hw⟩ rfl rfl K.u_S_uint8 K.sz_uint8 hgd i rfl (by omega)) rfl ?_
    clear h a w; intro a w h
    refine h_only 17 rfl rfl (by kernel_rfl) ?_
    refine op_storeb h rfl rfl K.sz_uint8 0 rfl hgd i (by omega) (by omega) ?_
    clear h a w; intro a w h
    simp only [List.set_cons_zero] at h
    rw [hsf] at h
    refine ⟨(by first | exact h.2 | exact h.2.drop 1 | exact h.2.drop 2 | exact h.2.drop 3 | exact h.2.drop 4 | exact h.2.drop 5 | exact h.2.drop 6), ?_⟩
    refine h_done (by kernel_rfl) ?_
    refine b_normal ?_
    refine c_then ?_
    refine c_region ?_
    refine wv h (r_move h rfl) rfl ?_
    clear h a w; intro a w h
    refine wv h (r_bin h rfl rfl (B.add_i64 (by omega) (by omega))) rfl ?_
    clear h a w; intro a w h
    refine wv h (r_assign h rfl) rfl ?_
    clear h a w; intro a w h
    refine wnil ?_
    refine ⟨i + 1, h.keep [0, 1, 2, 7, 8], ?_, ?_⟩
    · show i + 1 ≤ la.length; omega
    · show la.length - (i + 1) < la.length - i; omega
  ·
    have hil : i = la.length := by omega
    subst hil
    rw [Nat.sub_self, List.take_of_length_le (by omega), show D ++ List.replicate 0 (0 : UInt8) = D by simp] at h
    refine c_exit ?_
    refine e_then ?_
    refine e_then ?_
    refine e_here ?_
    refine c_then ?_
    refine c_seq (c_region ?_)
    refine wv h (r_move h rfl) rfl ?_
    clear h a w; intro a w h
    refine wl rfl (op_call h rfl K.go_check_Of (check_of s _ _ _ _ (CellsAt.cons hT _) (ViewsB.own 0 rfl) h.2) rfl ?_)
    clear h a w; intro x a w hx h
    refine wv h (r_move h rfl) rfl ?_
    clear h a w; intro a w h
    refine wl rfl (op_call h rfl K.go_check_Of (check_of s _ _ _ _ (CellsAt.cons hT _) (hva.cons _) h.2) rfl ?_)
    clear h a w; intro x a w hx h
    refine wv h (r_move h rfl) rfl ?_
    clear h a w; intro a w h
    refine wl rfl (op_call h rfl K.go_check_Of (check_of s _ _ _ _ (CellsAt.cons hT _) (hvb.cons _) h.2) rfl ?_)
    clear h a w; intro x a w hx h
    refine wv h (r_bin h rfl rfl (B.xor_u32)) rfl ?_
    clear h a w; intro a w h
    refine wv h (r_move h rfl) rfl ?_
    clear h a w; intro a w h
    refine wl rfl (op_call h rfl K.go_check_Of (check_of s _ _ _ _ (CellsAt.cons hT _) (hvc.cons _) h.2) rfl ?_)
    clear h a w; intro x a w hx h
    refine wv h (r_bin h rfl rfl (B.xor_u32)) rfl ?_
    clear h a w; intro a w h
    refine wv h (r_bin h rfl rfl (B.eql_u32)) rfl ?_
    clear h a w; intro a w h
    rw [decide_eq_true hcr] at h
    refine wv h (r_assign h rfl) rfl ?_
    clear h a w; intro a w h
    refine wnil (c_then ?_)
    refine c_ret ?_
    exact ret1 h rfl rfl ⟨(), rfl, h.2.drop 1, trivial⟩

theorem checkSeals (s w : World) (v : Value) (l : List UInt8) (F : List HItem) (hT : HasLines F) (hv : ViewsB F v l) (hs : Sat s w F) :
    Calls P n_law03_CheckSeals #[v] w (Ret s (fun _ : Unit => .bool true) (fun _ => F) (fun _ => True)) := by
  refine enter K.fn_law03_CheckSeals rfl K.nt_law03_CheckSeals rfl hs ?_
  clear hs w; intro a w h
  refine c_seq (c_region ?_)
  refine wv h (r_assign h rfl) rfl ?_
  clear h a w; intro a w h
  refine wnil (c_then ?_)
  refine c_seq ?_
  refine c_seq (c_region ?_)
  refine wl rfl (op_call h rfl K.go_law03_awake (awake03 s _ _ hT h.2) rfl ?_)
  clear h a w; intro x a w hx h
  refine wv h (r_not h rfl) rfl ?_
  clear h a w; intro a w h
  refine wv h (r_move h rfl) rfl ?_
  clear h a w; intro a w h
  first
    | (refine wvg h (r_move h rfl) rfl rfl ?_)
    | (refine wvs h rfl rfl ?_)
  clear h a w; intro a w h
  refine wvg h (r_lenB h rfl K.u_S_uint8 hv) rfl rfl ?_
  clear h a w; intro a w h
  first
    | (refine wvg h (r_bin h rfl rfl (B.gtr_int)) rfl rfl ?_)
    | (refine wvs h rfl rfl ?_)
  clear h a w; intro a w h
  first
    | (refine wv h (r_pick_true h rfl rfl) rfl ?_)
    | (refine wv h (r_pick_false h rfl rfl) rfl ?_)
    | (refine wv h (r_pick h rfl rfl rfl) rfl ?_)
  clear h a w; intro a w h
  refine wnil (c_then ?_)
  refine c_condD h rfl (fun ht1 => ?_) (fun ht1 => ?_)
  ·
    refine c_seq (c_region ?_)
    refine wl rfl (op_call h rfl K.go_law03_awake (awake03 s _ _ hT h.2) rfl ?_)
    clear h a w; intro x a w hx h
    refine wv h (r_assign h rfl) rfl ?_
    clear h a w; intro a w h
    refine wnil (c_then ?_)
    refine c_ret ?_
    exact ret1 h rfl rfl ⟨(), rfl, h.2, trivial⟩
  ·
    refine c_skip ?_
    refine c_then ?_
    refine c_seq (c_region ?_)
    refine wv h (r_move h rfl) rfl ?_
    clear h a w; intro a w h
    refine wl rfl (op_call h rfl K.go_check_Seal (check_seal s _ _ _ _ hT hv h.2) rfl ?_)
    clear h a w; intro sv1 a w hx h
    refine wv h (r_assign h rfl) rfl ?_
    clear h a w; intro a w h
    refine wnil (c_then ?_)
    refine c_seq (c_region ?_)
    refine wv h (r_move h rfl) rfl ?_
    clear h a w; intro a w h
    refine wl rfl (op_call h rfl K.go_check_Open (check_open s _ _ _ _ (CellsAt.cons hT _) (ViewsB.own 0 rfl) h.2) rfl ?_)
    clear h a w; intro q a w hx2 h
    rw [openN_seal, if_pos rfl, sealN_take] at h
    refine wv h (r_move h rfl) rfl ?_
    clear h a w; intro a w h
    refine wv h (r_extract h rfl rfl) rfl ?_
    clear h a w; intro a w h
    refine wv h (r_extract h rfl rfl) rfl ?_
    clear h a w; intro a w h
    refine wv h (r_assign h rfl) rfl ?_
    clear h a w; intro a w h
    refine wv h (r_assign h rfl) rfl ?_
    clear h a w; intro a w h
    refine wnil (c_then ?_)
    refine c_seq (c_region ?_)
    refine wv h (r_move h rfl) rfl ?_
    clear h a w; intro a w h
    refine wl rfl (op_call h rfl K.go_ref01_Seal (ref_seal s _ _ _ _ ((hv.cons _).cons _) h.2) rfl ?_)
    clear h a w; intro wv1 a w hx3 h
    have hsl := sealN_len l
    have hvv : ViewsB (OwnB wv1 (sealN l) :: OwnB q (padN l) :: OwnB sv1 (sealN l) :: F) (subV 1 wv1 0 60) (padN l) := by
      have := ViewsB.sub (ViewsB.own (L := OwnB wv1 (sealN l) :: OwnB q (padN l) :: OwnB sv1 (sealN l) :: F) 0 rfl) (i := 0) (j := 60) (by omega) (by omega)
      rw [List.drop_zero, Nat.sub_zero, sealN_take] at this
      exact this
    refine wv h (r_assign h rfl) rfl ?_
    clear h a w; intro a w h
    refine wnil (c_then ?_)
    refine c_seq (c_draw K.mixed (by kernel_rfl) h ?_)
    clear h a w; intro a hE
    refine qv hE (fun w hw => r_move ⟨hE, hw⟩ rfl) rfl ?_
    clear hE a; intro a hE
    refine qv hE (fun w hw => r_b2sb ⟨hE, hw⟩ rfl K.u_S_uint8 K.u_uint8 K.u_string (ViewsB.own 2 rfl)) rfl ?_
    clear hE a; intro a hE
    refine qv hE (fun w hw => r_move ⟨hE, hw⟩ rfl) rfl ?_
    clear hE a; intro a hE
    refine qv hE (fun w hw => r_b2sb ⟨hE, hw⟩ rfl K.u_S_uint8 K.u_uint8 K.u_string (ViewsB.own 0 rfl)) rfl ?_
    clear hE a; intro a hE
    refine qv hE (fun w hw => r_streq ⟨hE, hw⟩ rfl rfl) rfl ?_
    clear hE a; intro a hE
    rw [decide_eq_true rfl] at hE
    refine qv hE (fun w hw => r_move ⟨hE, hw⟩ rfl) rfl ?_
    clear hE a; intro a hE
    first
      | (refine qvg hE (fun w hw => r_move ⟨hE, hw⟩ rfl) rfl rfl ?_)
      | (refine qvs hE rfl rfl ?_)
    clear hE a; intro a hE
    first
      | (refine qv hE (fun w hw => r_pick_true ⟨hE, hw⟩ rfl rfl) rfl ?_)
      | (refine qv hE (fun w hw => r_pick_false ⟨hE, hw⟩ rfl rfl) rfl ?_)
      | (refine qv hE (fun w hw => r_pick ⟨hE, hw⟩ rfl rfl rfl) rfl ?_)
    clear hE a; intro a hE
    refine qv hE (fun w hw => r_move ⟨hE, hw⟩ rfl) rfl ?_
    clear hE a; intro a hE
    first
      | (refine qvg hE (fun w hw => r_move ⟨hE, hw⟩ rfl) rfl rfl ?_)
      | (refine qvs hE rfl rfl ?_)
    clear hE a; intro a hE
    refine qvg hE (fun w hw => r_b2sb ⟨hE, hw⟩ rfl K.u_S_uint8 K.u_uint8 K.u_string (ViewsB.own 1 rfl)) rfl rfl ?_
    clear hE a; intro a hE
    first
      | (refine qvg hE (fun w hw => r_move ⟨hE, hw⟩ rfl) rfl rfl ?_)
      | (refine qvs hE rfl rfl ?_)
    clear hE a; intro a hE
    refine qvg hE (fun w hw => r_sliceB ⟨hE, hw⟩ rfl K.u_S_uint8 K.sz_uint8 (ViewsB.own 0 rfl) 0 60 rfl ⟨_, rfl⟩ (by omega) (by omega)) rfl rfl ?_
    clear hE a; intro a hE
    refine qvg hE (fun w hw => r_b2sb ⟨hE, hw⟩ rfl K.u_S_uint8 K.u_uint8 K.u_string hvv) rfl rfl ?_
    clear hE a; intro a hE
    first
      | (refine qvg hE (fun w hw => r_streq ⟨hE, hw⟩ rfl rfl) rfl rfl ?_)
      | (refine qvs hE rfl rfl ?_)
    clear hE a; intro a hE
    rw [decide_eq_true rfl] at hE
    first
      | (refine qv hE (fun w hw => r_pick_true ⟨hE, hw⟩ rfl rfl) rfl ?_)
      | (refine qv hE (fun w hw => r_pick_false ⟨hE, hw⟩ rfl rfl) rfl ?_)
      | (refine qv hE (fun w hw => r_pick ⟨hE, hw⟩ rfl rfl rfl) rfl ?_)
    clear hE a; intro a hE
    refine qv hE (fun w hw => r_assign ⟨hE, hw⟩ rfl) rfl ?_
    clear hE a; intro a hE
    refine qnil hE ?_
    clear hE a; intro a w h
    refine c_then ?_
    refine c_ret ?_
    exact ret1 h rfl rfl ⟨(), rfl, h.2.drop 3, trivial⟩

theorem checkNumbers (s w : World) (n : Int) (v : Value) (l : List UInt8) (F : List HItem) (hT : HasLines F) (hv : ViewsB F v l) (hs : Sat s w F) :
    Calls P n_law03_CheckNumbers #[.int .i64 n, v] w (Ret s (fun _ : Unit => .bool true) (fun _ => F) (fun _ => True)) := by
  refine enter K.fn_law03_CheckNumbers rfl K.nt_law03_CheckNumbers rfl hs ?_
  clear hs w; intro a w h
  refine c_seq (c_region ?_)
  refine wv h (r_assign h rfl) rfl ?_
  clear h a w; intro a w h
  refine wnil (c_then ?_)
  refine c_seq ?_
  refine c_seq (c_region ?_)
  refine wl rfl (op_call h rfl K.go_law03_awake (awake03 s _ _ hT h.2) rfl ?_)
  clear h a w; intro x a w hx h
  refine wv h (r_not h rfl) rfl ?_
  clear h a w; intro a w h
  refine wv h (r_move h rfl) rfl ?_
  clear h a w; intro a w h
  first
    | (refine wvg h (r_move h rfl) rfl rfl ?_)
    | (refine wvs h rfl rfl ?_)
  clear h a w; intro a w h
  refine wvg h (r_lenB h rfl K.u_S_uint8 hv) rfl rfl ?_
  clear h a w; intro a w h
  first
    | (refine wvg h (r_bin h rfl rfl (B.gtr_int)) rfl rfl ?_)
    | (refine wvs h rfl rfl ?_)
  clear h a w; intro a w h
  first
    | (refine wv h (r_pick_true h rfl rfl) rfl ?_)
    | (refine wv h (r_pick_false h rfl rfl) rfl ?_)
    | (refine wv h (r_pick h rfl rfl rfl) rfl ?_)
  clear h a w; intro a w h
  refine wnil (c_then ?_)
  refine c_condD h rfl (fun ht1 => ?_) (fun ht1 => ?_)
  ·
    refine c_seq (c_region ?_)
    refine wl rfl (op_call h rfl K.go_law03_awake (awake03 s _ _ hT h.2) rfl ?_)
    clear h a w; intro x a w hx h
    refine wv h (r_assign h rfl) rfl ?_
    clear h a w; intro a w h
    refine wnil (c_then ?_)
    refine c_ret ?_
    exact ret1 h rfl rfl ⟨(), rfl, h.2, trivial⟩
  ·
    refine c_skip ?_
    refine c_then ?_
    refine c_seq (c_region ?_)
    refine wv h (r_move h rfl) rfl ?_
    clear h a w; intro a w h
    refine wl rfl (op_call h rfl K.go_check_Four (check_four s _ n _ h.2) rfl ?_)
    clear h a w; intro bv1 a w hx h
    refine wv h (r_assign h rfl) rfl ?_
    clear h a w; intro a w h
    refine wnil (c_then ?_)
    refine c_seq (c_region ?_)
    refine wv h (r_move h rfl) rfl ?_
    clear h a w; intro a w h
    refine wv h (r_conv h rfl K.u_int K.u_uint32 (C.u32_i64) ) rfl ?_
    clear h a w; intro a w h
    refine wl rfl (op_call h rfl K.go_ref01_Four (ref_four s _ (UInt32.ofInt n) _ h.2) rfl ?_)
    clear h a w; intro wv1 a w hx2 h
    refine wv h (r_assign h rfl) rfl ?_
    clear h a w; intro a w h
    refine wnil (c_then ?_)
    refine c_seq (c_region ?_)
    refine wv h (r_assign h rfl) rfl ?_
    clear h a w; intro a w h
    refine wnil (c_then ?_)
    refine c_seq ?_
    refine c_seq (c_region ?_)
    refine wv h (r_assign h rfl) rfl ?_
    clear h a w; intro a w h
    have e0 : leN ((l.take 4).drop 4) = 0 := by rw [List.drop_eq_nil_iff.2 (by rw [List.length_take]; omega)]; rfl
    refine wnil (c_then ?_)
    refine c_block ?_
    refine c_loop (X := Nat) (fun k => [(0, .int .i64 n), (1, v), (5, bv1), (6, wv1), (7, .int .i64 (leN ((l.take 4).drop k) : Int)), (8, .int .i64 ((k : Int) - 1))])
      (fun _ => OwnB wv1 (fourN (UInt32.ofInt n)) :: OwnB bv1 (fourN (UInt32.ofInt n)) :: F) (fun k => k ≤ 4) (fun k => k) 4 (by rw [e0]; exact h.keep [0, 1, 5, 6, 7, 8]) (by simp) ?_
    clear h a w; intro k a w hx h
    refine c_seq ?_
    refine c_seq (c_region ?_)
    refine wv h (r_move h rfl) rfl ?_
    clear h a w; intro a w h
    refine wv h (r_bin h rfl rfl (B.geq_int)) rfl ?_
    clear h a w; intro a w h
    refine wnil (c_then ?_)
    refine c_condD h rfl (fun ht2 => ?_) (fun ht2 => ?_)
    ·
      obtain ⟨k, rfl⟩ : ∃ k', k = k' + 1 := ⟨k - 1, by omega⟩
      have ek : ((k + 1 : Nat) : Int) - 1 = (k : Int) := by omega
      rw [ek] at h
      have hlt := leN_lt ((l.take 4).drop (k + 1))
      have hdl : ((l.take 4).drop (k + 1)).length ≤ 3 := by rw [List.length_drop, List.length_take]; omega
      have hp : 256 ^ ((l.take 4).drop (k + 1)).length ≤ 256 ^ 3 := Nat.pow_le_pow_right (by omega) hdl
      refine c_skip ?_
      refine c_then ?_
      refine c_seq ?_
      refine c_block ?_
      refine c_seq (c_region ?_)
      refine wv h (r_move h rfl) rfl ?_
      clear h a w; intro a w h
      refine wv h (r_bin h rfl rfl (B.mul_i64 (by omega) (by omega))) rfl ?_
      clear h a w; intro a w h
      refine wv h (r_assign h rfl) rfl ?_
      clear h a w; intro a w h
      refine wnil (c_then ?_)
      refine c_seq (c_region ?_)
      refine wv h (r_move h rfl) rfl ?_
      clear h a w; intro a w h
      refine wv h (r_move h rfl) rfl ?_
      clear h a w; intro a w h
      refine wv h (r_lenB h rfl K.u_S_uint8 ((hv.cons _).cons _)) rfl ?_
      clear h a w; intro a w h
      refine wv h (r_bin h rfl rfl (B.lss_int)) rfl ?_
      clear h a w; intro a w h
      refine wnil (c_then ?_)
      refine c_condD h rfl (fun ht3 => ?_) (fun ht3 => ?_)
      ·
        obtain ⟨b, hb⟩ : ∃ b, l[k]? = some b := ⟨l[k]'(by omega), by simp⟩
        have hd : (l.take 4).drop k = b :: (l.take 4).drop (k + 1) := key_cons (by rw [List.getElem?_take, if_pos (by omega), hb])
        have hn : ((leN ((l.take 4).drop k) : Nat) : Int) = (leN ((l.take 4).drop (k + 1)) : Int) * 256 + (b.toNat : Int) := by rw [hd]; simp only [leN]; omega
        have hbl := b.toNat_lt
        refine c_region ?_
        refine wv h (r_move h rfl) rfl ?_
        clear h a w; intro a w h
        refine wv h (r_move h rfl) rfl ?_
        clear h a w; intro a w h
        refine wv h (r_move h rfl) rfl ?_
        clear h a w; intro a w h
        refine wl rfl (op_indexAddrb h rfl rfl K.u_S_uint8 K.sz_uint8 ((hv.cons _).cons _) k rfl hb rfl ?_)
        clear h a w; intro p a w hp2 h
        first
          | (refine wv h (r_load h rfl K.u_uint8 rfl 0 rfl rfl) rfl ?_)
          | (refine wv h (r_load h rfl K.u_uint8 rfl 1 rfl rfl) rfl ?_)
          | (refine wv h (r_load h rfl K.u_uint8 rfl 2 rfl rfl) rfl ?_)
          | (refine wv h (r_load h rfl K.u_uint8 rfl 3 rfl rfl) rfl ?_)
          | (refine wv h (r_load h rfl K.u_uint8 rfl 4 rfl rfl) rfl ?_)
          | (refine wv h (r_load h rfl K.u_uint8 rfl 5 rfl rfl) rfl ?_)
          | (refine wv h (r_load1 h rfl K.u_uint8 rfl (by assumption)) rfl ?_)
        clear h a w; intro a w h
        refine wv h (r_conv h rfl K.u_uint8 K.u_int (C.i64_u8) ) rfl ?_
        clear h a w; intro a w h
        refine wv h (r_bin h rfl rfl (B.add_i64 (by omega) (by omega))) rfl ?_
        clear h a w; intro a w h
        rw [← hn] at h
        refine wv h (r_assign h rfl) rfl ?_
        clear h a w; intro a w h
        refine wnil ?_
        refine b_normal ?_
        refine c_then ?_
        refine c_region ?_
        refine wv h (r_move h rfl) rfl ?_
        clear h a w; intro a w h
        refine wv h (r_bin h rfl rfl (B.sub_i64 (by omega) (by omega))) rfl ?_
        clear h a w; intro a w h
        refine wv h (r_assign h rfl) rfl ?_
        clear h a w; intro a w h
        refine wnil ?_
        refine ⟨k, h.keep [0, 1, 5, 6, 7, 8], ?_, ?_⟩
        · show k ≤ 4; omega
        · show k < k + 1; omega
      ·
        have hd : ((leN ((l.take 4).drop (k + 1)) : Nat) : Int) * 256 = (leN ((l.take 4).drop k) : Int) := by
          rw [List.drop_eq_nil_iff.2 (by rw [List.length_take]; omega), List.drop_eq_nil_iff.2 (by rw [List.length_take]; omega)]; rfl
        rw [hd] at h
        refine c_skip ?_
        refine b_normal ?_
        refine c_then ?_
        refine c_region ?_
        refine wv h (r_move h rfl) rfl ?_
        clear h a w; intro a w h
        refine wv h (r_bin h rfl rfl (B.sub_i64 (by omega) (by omega))) rfl ?_
        clear h a w; intro a w h
        refine wv h (r_assign h rfl) rfl ?_
        clear h a w; intro a w h
        refine wnil ?_
        refine ⟨k, h.keep [0, 1, 5, 6, 7, 8], ?_, ?_⟩
        · show k ≤ 4; omega
        · show k < k + 1; omega
    ·
      have hk0 : k = 0 := by omega
      subst hk0
      rw [List.drop_zero] at h
      have hf := leN_four (UInt32.ofInt n)
      have hft : (fourN (UInt32.ofInt n)).take 4 = fourN (UInt32.ofInt n) := rfl
      refine c_exit ?_
      refine e_then ?_
      refine e_then ?_
      refine e_here ?_
      refine c_then ?_
      refine c_seq (c_region ?_)
      refine wv h (r_move h rfl) rfl ?_
      clear h a w; intro a w h
      refine wv h (r_b2sb h rfl K.u_S_uint8 K.u_uint8 K.u_string (ViewsB.own 1 rfl)) rfl ?_
      clear h a w; intro a w h
      refine wv h (r_move h rfl) rfl ?_
      clear h a w; intro a w h
      refine wv h (r_b2sb h rfl K.u_S_uint8 K.u_uint8 K.u_string (ViewsB.own 0 rfl)) rfl ?_
      clear h a w; intro a w h
      refine wv h (r_streq h rfl rfl) rfl ?_
      clear h a w; intro a w h
      rw [decide_eq_true rfl] at h
      refine wv h (r_move h rfl) rfl ?_
      clear h a w; intro a w h
      first
        | (refine wvg h (r_move h rfl) rfl rfl ?_)
        | (refine wvs h rfl rfl ?_)
      clear h a w; intro a w h
      refine wlg h rfl rfl (op_call h rfl K.go_check_Number (check_number s _ _ _ _ (ViewsB.own 1 rfl) h.2) rfl ?_)
      clear h a w; intro x a w hx h
      rw [hft, hf] at h
      first
        | (refine wvg h (r_move h rfl) rfl rfl ?_)
        | (refine wvs h rfl rfl ?_)
      clear h a w; intro a w h
      first
        | (refine wvg h (r_conv h rfl K.u_int K.u_uint32 (C.u32_i64) ) rfl rfl ?_)
        | (refine wvs h rfl rfl ?_)
      clear h a w; intro a w h
      first
        | (refine wvg h (r_conv h rfl K.u_uint32 K.u_int (C.i64_u32) ) rfl rfl ?_)
        | (refine wvs h rfl rfl ?_)
      clear h a w; intro a w h
      first
        | (refine wvg h (r_bin h rfl rfl (B.eql_int)) rfl rfl ?_)
        | (refine wvs h rfl rfl ?_)
      clear h a w; intro a w h
      rw [decide_eq_true rfl] at h
      first
        | (refine wv h (r_pick_true h rfl rfl) rfl ?_)
        | (refine wv h (r_pick_false h rfl rfl) rfl ?_)
        | (refine wv h (r_pick h rfl rfl rfl) rfl ?_)
      clear h a w; intro a w h
      refine wv h (r_move h rfl) rfl ?_
      clear h a w; intro a w h
      first
        | (refine wvg h (r_move h rfl) rfl rfl ?_)
        | (refine wvs h rfl rfl ?_)
      clear h a w; intro a w h
      refine wlg h rfl rfl (op_call h rfl K.go_check_Number (check_number s _ _ _ _ ((hv.cons _).cons _) h.2) rfl ?_)
      clear h a w; intro x a w hx h
      first
        | (refine wvg h (r_move h rfl) rfl rfl ?_)
        | (refine wvs h rfl rfl ?_)
      clear h a w; intro a w h
      first
        | (refine wvg h (r_bin h rfl rfl (B.eql_int)) rfl rfl ?_)
        | (refine wvs h rfl rfl ?_)
      clear h a w; intro a w h
      rw [decide_eq_true rfl] at h
      first
        | (refine wv h (r_pick_true h rfl rfl) rfl ?_)
        | (refine wv h (r_pick_false h rfl rfl) rfl ?_)
        | (refine wv h (r_pick h rfl rfl rfl) rfl ?_)
      clear h a w; intro a w h
      refine wv h (r_assign h rfl) rfl ?_
      clear h a w; intro a w h
      refine wnil (c_then ?_)
      refine c_ret ?_
      exact ret1 h rfl rfl ⟨(), rfl, h.2.drop 2, trivial⟩
end Go.Proofs.K
