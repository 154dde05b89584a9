/- What PackErrs rests on, part 4 of 6: the small library for walks, contracts of functions, plain laws. No statement is proved here. -/
import Derived.Test.YtfhlbfalgdipiaaDoorPackErrsZ3
set_option linter.unusedVariables false
set_option linter.unusedSimpArgs false
set_option maxRecDepth 10000
set_option maxHeartbeats 2000000
/- The contracts of package digit: what its functions do to a pen's bytes and to an eye's. -/
namespace Go.Proofs.K
open Go.Sl

theorem setSet (vs : Array Value) (k : Nat) (u v : Value) : (vs.setIfInBounds k u).setIfInBounds k v = vs.setIfInBounds k v := by simp
theorem setSelf {vs : Array Value} {k : Nat} {v : Value} (h : vs[k]? = some v) : vs.setIfInBounds k v = vs := by
  apply Array.ext_getElem?
  intro j
  rw [Array.getElem?_setIfInBounds]
  split
  · rename_i e; subst e; split
    · exact h.symm
    · rename_i hh; rw [Array.getElem?_eq_none (by omega)]
  · rfl
theorem getSet {vs : Array Value} {k : Nat} (v : Value) (h : k < vs.size) : (vs.setIfInBounds k v)[k]? = some v := by simp [h]

/-- a number's digits behind a pen's bytes -/
theorem pen_num (s w : World) (b k : Nat) (vs : Array Value) (T : TypeId) (v : Value) (l : List UInt8) (m : Nat) (F : List HItem) (hm : m ≤ 9223372036854775807)
    (hv : vs[k]? = some v) (hl : l.length + 20 ≤ 4294967296) (hs : Sat s w (Blk b (.cells vs T) :: OwnB v l :: F)) :
    Calls P n_digit_Pen_Num #[.pointer (some ⟨b, k, none⟩), .int .i64 (m : Int)] w (Ret s (fun _ => .pointer (some ⟨b, k, none⟩))
      (fun v' => Blk b (.cells (vs.setIfInBounds k v') T) :: OwnB v' (l ++ numN m) :: F) (fun _ => True)) := by
  have hk : k < vs.size := (Array.getElem?_eq_some_iff.1 hv).1
  have hnl := numN_len9 m (by omega)
  have hu0 : (UInt64.ofInt (m : Int)).toNat = m := ofInt_nat m (by omega)
  refine enter K.fn_digit_Pen_Num rfl K.nt_digit_Pen_Num rfl hs ?_
  clear hs w; intro a w h
  refine c_seq (c_region ?_)
  refine wv h (r_assign h rfl) rfl ?_
  clear h a w; intro a w h
  refine wnil (c_then ?_)
  refine c_seq (c_region ?_)
  refine wv h (r_move h rfl) rfl ?_
  clear h a w; intro a w h
  refine wv h (r_conv h rfl K.u_int K.u_uint64 (C.u64_i64) ) rfl ?_
  clear h a w; intro a w h
  refine wv h (r_assign h rfl) rfl ?_
  clear h a w; intro a w h
  refine wnil (c_then ?_)
  refine c_seq ?_
  refine c_block ?_
  refine c_loop (X := UInt64 × Value × List UInt8) (fun x => [(0, .pointer (some ⟨b, k, none⟩)), (5, w64 x.1)]) (fun x => Blk b (.cells (vs.setIfInBounds k x.2.1) T) :: OwnB x.2.1 x.2.2 :: F)
    (fun x => x.2.2 ++ numN x.1.toNat = l ++ numN m ∧ (0 < x.1.toNat ∨ x.1.toNat = m)) (fun x => x.1.toNat) (UInt64.ofInt (m : Int), v, l) (by rw [setSelf hv]; exact h.keep [0, 5]) ⟨by rw [hu0], .inr hu0⟩ ?_
  clear h a w; intro x a w hx h
  obtain ⟨u, vv, l'⟩ := x
  obtain ⟨hx1, hx2⟩ := hx
  simp only at h hx1 hx2
  have hlen := congrArg List.length hx1
  simp only [List.length_append] at hlen
  have hp := numN_len_pos u.toNat
  as_aux_lemma =>
   refine c_seq ?_
   refine c_seq (c_region ?_)
   refine wv h (r_move h rfl) rfl ?_
   clear h a w; intro a w h
   refine wv h (r_bin h rfl rfl (B.geq_u64 (y := 128))) rfl ?_
   clear h a w; intro a w h
   refine wnil (c_then ?_)
   refine c_condD h rfl (fun ht1 => ?_) (fun ht1 => ?_)
   ·
    have ht' : ¬ u.toNat < 128 := by have := UInt64.le_iff_toNat_le.1 ht1; simpa using this
    rw [numN, dif_neg ht'] at hx1
    refine c_skip ?_
    refine c_then ?_
    refine c_seq ?_
    refine c_block ?_
    refine c_region ?_
    refine wv h (r_move h rfl) rfl ?_
    clear h a w; intro a w h
    refine wv h (r_move h rfl) rfl ?_
    clear h a w; intro a w h
    refine wv h (r_nilCheck h rfl) rfl ?_
    clear h a w; intro a w h
    refine wv h (r_fieldAddr0 h rfl K.u_digit_Pen rfl K.sz_S_uint8 rfl rfl) rfl ?_
    clear h a w; intro a w h
    refine wv h (r_load h rfl K.u_S_uint8 rfl 0 rfl (getSet vv hk)) rfl ?_
    clear h a w; intro a w h
    refine wv h (r_move h rfl) rfl ?_
    clear h a w; intro a w h
    refine wv h (r_bin h rfl rfl (B.and_u64 (y := 127))) rfl ?_
    clear h a w; intro a w h
    refine wv h (r_conv h rfl K.u_uint64 K.u_uint8 (C.u8_u64) ) rfl ?_
    clear h a w; intro a w h
    refine wl rfl (op_buildSlice h K.u_S_uint8 K.sz_uint8 K.z_uint8 rfl rfl rfl rfl rfl (by simp [Value.cells, bv, w32, w64, sv]) rfl ?_)
    clear h a w; intro b1 a w h
    refine wl rfl (op_appendb h rfl rfl K.u_S_uint8 K.sz_uint8 K.z_uint8 rfl rfl 1 rfl (by omega) rfl ?_)
    clear h a w; intro v2 a w h
    refine wv h (r_nilCheck h rfl) rfl ?_
    clear h a w; intro a w h
    refine wv h (r_fieldAddr0 h rfl K.u_digit_Pen rfl K.sz_S_uint8 rfl rfl) rfl ?_
    clear h a w; intro a w h
    refine wl rfl (op_store h rfl rfl K.sz_S_uint8 (Views.oneCell (Views.own 1 rfl) h.2) 0 rfl (Nat.ble_eq_true_of_le (by simp; omega)) rfl ?_)
    clear h a w; intro a w h
    refine wnil ?_
    refine b_normal ?_
    refine c_then ?_
    refine c_region ?_
    refine wv h (r_move h rfl) rfl ?_
    clear h a w; intro a w h
    refine wv h (r_bin h rfl rfl (B.shr_u64 (by decide))) rfl ?_
    clear h a w; intro a w h
    refine wv h (r_assign h rfl) rfl ?_
    clear h a w; intro a w h
    refine wnil ?_
    refine ⟨(UInt64.ofNat (u.toNat / 2 ^ (7 : Int).toNat), v2, l' ++ [(u &&& 127).toUInt8]), ?_, ⟨?_, ?_⟩, ?_⟩
    · have := h.keep [0, 5]
      simp only [List.set_cons_zero, List.set_cons_succ, setSet] at this
      exact this
    · show (l' ++ [(u &&& 127).toUInt8]) ++ numN (UInt64.ofNat (u.toNat / 2 ^ (7 : Int).toNat)).toNat = _
      rw [dig_low, dig_next, ← hx1]; simp
    · left
      show 0 < (UInt64.ofNat (u.toNat / 2 ^ (7 : Int).toNat)).toNat
      rw [dig_next]; omega
    · show (UInt64.ofNat (u.toNat / 2 ^ (7 : Int).toNat)).toNat < u.toNat
      rw [dig_next]; omega
   ·
    have ht' : u.toNat < 128 := by
      have := fun h => ht1 (UInt64.le_iff_toNat_le.2 h)
      simpa using this
    rw [numN, dif_pos ht'] at hx1
    refine c_exit ?_
    refine e_then ?_
    refine e_then ?_
    refine e_here ?_
    refine c_then ?_
    refine c_seq (c_region ?_)
    refine wv h (r_move h rfl) rfl ?_
    clear h a w; intro a w h
    refine wv h (r_move h rfl) rfl ?_
    clear h a w; intro a w h
    refine wv h (r_nilCheck h rfl) rfl ?_
    clear h a w; intro a w h
    refine wv h (r_fieldAddr0 h rfl K.u_digit_Pen rfl K.sz_S_uint8 rfl rfl) rfl ?_
    clear h a w; intro a w h
    refine wv h (r_load h rfl K.u_S_uint8 rfl 0 rfl (getSet vv hk)) rfl ?_
    clear h a w; intro a w h
    refine wv h (r_move h rfl) rfl ?_
    clear h a w; intro a w h
    refine wv h (r_conv h rfl K.u_uint64 K.u_uint8 (C.u8_u64) ) rfl ?_
    clear h a w; intro a w h
    refine wv h (r_bin h rfl rfl (B.or_u8 (y := 128))) rfl ?_
    clear h a w; intro a w h
    refine wl rfl (op_buildSlice h K.u_S_uint8 K.sz_uint8 K.z_uint8 rfl rfl rfl rfl rfl (by simp [Value.cells, bv, w32, w64, sv]) rfl ?_)
    clear h a w; intro b1 a w h
    refine wl rfl (op_appendb h rfl rfl K.u_S_uint8 K.sz_uint8 K.z_uint8 rfl rfl 1 rfl (by omega) rfl ?_)
    clear h a w; intro v2 a w h
    refine wv h (r_nilCheck h rfl) rfl ?_
    clear h a w; intro a w h
    refine wv h (r_fieldAddr0 h rfl K.u_digit_Pen rfl K.sz_S_uint8 rfl rfl) rfl ?_
    clear h a w; intro a w h
    refine wl rfl (op_store h rfl rfl K.sz_S_uint8 (Views.oneCell (Views.own 1 rfl) h.2) 0 rfl (Nat.ble_eq_true_of_le (by simp; omega)) rfl ?_)
    clear h a w; intro a w h
    refine wnil (c_then ?_)
    refine c_seq (c_region ?_)
    refine wv h (r_move h rfl) rfl ?_
    clear h a w; intro a w h
    refine wv h (r_assign h rfl) rfl ?_
    clear h a w; intro a w h
    refine wnil (c_then ?_)
    refine c_ret ?_
    have e1 := dig_last u ht'
    refine ret1 h rfl rfl ⟨v2, rfl, ?_, trivial⟩
    have h2 := h.2
    simp only [setSet, List.set_cons_zero, List.set_cons_succ] at h2
    rw [e1, hx1] at h2
    exact h2

theorem pen_raw (s w : World) (b k : Nat) (vs : Array Value) (T : TypeId) (v pv : Value) (l p : List UInt8) (F : List HItem)
    (hv : vs[k]? = some v) (hl : l.length + p.length ≤ 4294967296) (hp : ViewsB F pv p) (hs : Sat s w (Blk b (.cells vs T) :: OwnB v l :: F)) :
    Calls P n_digit_Pen_Raw #[.pointer (some ⟨b, k, none⟩), pv] w (Ret s (fun _ => .pointer (some ⟨b, k, none⟩))
      (fun v' => Blk b (.cells (vs.setIfInBounds k v') T) :: OwnB v' (l ++ p) :: F) (fun _ => True)) := by
  have hk : k < vs.size := (Array.getElem?_eq_some_iff.1 hv).1
  refine enter K.fn_digit_Pen_Raw rfl K.nt_digit_Pen_Raw rfl hs ?_
  clear hs w; intro a w h
  refine c_seq (c_region ?_)
  refine wv h (r_assign h rfl) rfl ?_
  clear h a w; intro a w h
  refine wnil (c_then ?_)
  refine c_seq (c_region ?_)
  refine wv h (r_move h rfl) rfl ?_
  clear h a w; intro a w h
  refine wv h (r_move h rfl) rfl ?_
  clear h a w; intro a w h
  refine wv h (r_nilCheck h rfl) rfl ?_
  clear h a w; intro a w h
  refine wv h (r_fieldAddr0 h rfl K.u_digit_Pen rfl K.sz_S_uint8 rfl rfl) rfl ?_
  clear h a w; intro a w h
  refine wv h (r_load h rfl K.u_S_uint8 rfl 0 rfl hv) rfl ?_
  clear h a w; intro a w h
  refine wv h (r_move h rfl) rfl ?_
  clear h a w; intro a w h
  refine wl rfl (op_appendbs h rfl rfl K.u_S_uint8 K.sz_uint8 K.z_uint8 rfl rfl 1 rfl (Src.bytes K.u_S_uint8 ((hp.cons _).cons _) h.2) hl rfl ?_)
  clear h a w; intro v2 a w h
  refine wv h (r_nilCheck h rfl) rfl ?_
  clear h a w; intro a w h
  refine wv h (r_fieldAddr0 h rfl K.u_digit_Pen rfl K.sz_S_uint8 rfl rfl) rfl ?_
  clear h a w; intro a w h
  refine wl rfl (op_store h rfl rfl K.sz_S_uint8 (Views.oneCell (Views.own 1 rfl) h.2) 0 rfl (Nat.ble_eq_true_of_le hk) rfl ?_)
  clear h a w; intro a w h
  refine wnil (c_then ?_)
  refine c_seq (c_region ?_)
  refine wv h (r_move h rfl) rfl ?_
  clear h a w; intro a w h
  refine wv h (r_assign h rfl) rfl ?_
  clear h a w; intro a w h
  refine wnil (c_then ?_)
  refine c_ret ?_
  exact ret1 h rfl rfl ⟨v2, rfl, h.2, trivial⟩

theorem new_eye (s w : World) (pv : Value) (p : List UInt8) (F : List HItem) (hl : p.length ≤ 4294967296) (hp : ViewsB F pv p) (hs : Sat s w F) :
    Calls P n_digit_NewEye #[pv] w (Ret s (fun x : Nat × Value => .pointer (some ⟨x.1, 0, none⟩)) (fun x => Blk x.1 (.cells #[x.2, .int .i64 0] t_digit_Eye) :: OwnB x.2 p :: F) (fun _ => True)) := by
  refine enter K.fn_digit_NewEye rfl K.nt_digit_NewEye rfl hs ?_
  clear hs w; intro a w h
  refine c_seq (c_region ?_)
  refine wv h (r_assign h rfl) rfl ?_
  clear h a w; intro a w h
  refine wnil (c_then ?_)
  refine c_seq (c_region ?_)
  refine wv h (r_move h rfl) rfl ?_
  clear h a w; intro a w h
  refine wl rfl (op_appendnbs h rfl rfl K.u_S_uint8 K.sz_uint8 K.z_uint8 rfl rfl (Src.bytes K.u_S_uint8 hp h.2) hl rfl ?_)
  clear h a w; intro v2 a w h
  refine wv h (r_build (cells := #[v2, .int .i64 0]) h K.u_digit_Eye K.z_digit_Eye K.pl_digit_Eye rfl ?_) rfl ?_
  · obtain ⟨A, cap, rfl, _⟩ := Views.shape (Views.own 0 rfl) h.2
    rfl
  clear h a w; intro a w h
  refine wl rfl (op_box h rfl rfl ?_)
  clear h a w; intro b a w h
  refine wv h (r_assign h rfl) rfl ?_
  clear h a w; intro a w h
  refine wnil (c_then ?_)
  refine c_ret ?_
  exact ret1 h rfl rfl ⟨(b, v2), rfl, h.2, trivial⟩

/-- a fault, where there is none yet -/
theorem eye_fail0 (s w : World) (b : Nat) (T : TypeId) (pv : Value) (l : List UInt8) (k : Int) (F : List HItem) (hs : Sat s w (Blk b (.cells #[pv, .int .i64 0] T) :: OwnB pv l :: F)) :
    Calls P n_digit_Eye_fail #[.pointer (some ⟨b, 0, none⟩), .int .i64 k] w (Ret s (fun _ : Unit => .tuple #[])
      (fun _ => Blk b (.cells #[.slice none 0 0, .int .i64 k] T) :: OwnB (.slice none 0 0) [] :: F) (fun _ => True)) := by
  refine enter K.fn_digit_Eye_fail rfl K.nt_digit_Eye_fail rfl hs ?_
  clear hs w; intro a w h
  refine c_seq (c_region ?_)
  refine wv h (r_move h rfl) rfl ?_
  clear h a w; intro a w h
  refine wv h (r_nilCheck h rfl) rfl ?_
  clear h a w; intro a w h
  refine wv h (r_fieldAddr h 1 rfl K.u_digit_Eye rfl K.sz_api_Errno rfl rfl) rfl ?_
  clear h a w; intro a w h
  refine wv h (r_load h rfl K.u_api_Errno rfl 0 rfl rfl) rfl ?_
  clear h a w; intro a w h
  refine wv h (r_bin h rfl rfl (B.eql_int)) rfl ?_
  clear h a w; intro a w h
  refine wnil (c_then ?_)
  refine c_true h rfl ?_
  refine c_region ?_
  refine wv h (r_move h rfl) rfl ?_
  clear h a w; intro a w h
  refine wv h (r_move h rfl) rfl ?_
  clear h a w; intro a w h
  refine wv h (r_move h rfl) rfl ?_
  clear h a w; intro a w h
  refine wv h (r_nilCheck h rfl) rfl ?_
  clear h a w; intro a w h
  refine wv h (r_fieldAddr h 1 rfl K.u_digit_Eye rfl K.sz_api_Errno rfl rfl) rfl ?_
  clear h a w; intro a w h
  refine wl rfl (op_store h rfl rfl K.sz_api_Errno (by rfl) 0 rfl rfl rfl ?_)
  clear h a w; intro a w h
  refine wv h (r_nilCheck h rfl) rfl ?_
  clear h a w; intro a w h
  refine wv h (r_fieldAddr0 h rfl K.u_digit_Eye rfl K.sz_S_uint8 rfl rfl) rfl ?_
  clear h a w; intro a w h
  refine wl rfl (op_store h rfl rfl K.sz_S_uint8 (by rfl) 0 rfl rfl rfl ?_)
  clear h a w; intro a w h
  refine wnil ?_
  refine end0 h rfl ⟨(), rfl, ?_, trivial⟩
  exact Sat.map (J := OwnB (.slice none 0 0) []) h.2 1 rfl (fun _ _ => ⟨by simp [bs], .inl ⟨rfl, rfl⟩⟩)
theorem eye_fail1 (s w : World) (b : Nat) (T : TypeId) (pv : Value) (l : List UInt8) (e k : Int) (he : e ≠ 0) (F : List HItem) (hs : Sat s w (Blk b (.cells #[pv, .int .i64 e] T) :: OwnB pv l :: F)) :
    Calls P n_digit_Eye_fail #[.pointer (some ⟨b, 0, none⟩), .int .i64 k] w (Ret s (fun _ : Unit => .tuple #[])
      (fun _ => Blk b (.cells #[pv, .int .i64 e] T) :: OwnB pv l :: F) (fun _ => True)) := by
  have hd : decide (e = 0) = false := decide_eq_false he
  refine enter K.fn_digit_Eye_fail rfl K.nt_digit_Eye_fail rfl hs ?_
  clear hs w; intro a w h
  refine c_seq (c_region ?_)
  refine wv h (r_move h rfl) rfl ?_
  clear h a w; intro a w h
  refine wv h (r_nilCheck h rfl) rfl ?_
  clear h a w; intro a w h
  refine wv h (r_fieldAddr h 1 rfl K.u_digit_Eye rfl K.sz_api_Errno rfl rfl) rfl ?_
  clear h a w; intro a w h
  refine wv h (r_load h rfl K.u_api_Errno rfl 0 rfl rfl) rfl ?_
  clear h a w; intro a w h
  refine wv h (r_bin h rfl rfl (B.eql_int)) rfl ?_
  clear h a w; intro a w h
  rw [hd] at h
  refine wnil (c_then ?_)
  refine c_false h rfl ?_
  refine c_skip ?_
  exact end0 h rfl ⟨(), rfl, h.2, trivial⟩

theorem key_drop {l : List UInt8} {i : Nat} {x : UInt8} (h : l[i]? = some x) : l.drop i = x :: l.drop (i + 1) := by
  have hlt : i < l.length := (List.getElem?_eq_some_iff.1 h).1
  rw [List.drop_eq_getElem_cons hlt]
  congr 1
  exact (List.getElem?_eq_some_iff.1 h).2

/-- the next number -/
theorem eye_num (s w : World) (b : Nat) (T : TypeId) (pv : Value) (l : List UInt8) (e most : Int) (F : List HItem) (hm1 : -9223372036854775808 ≤ most) (hm2 : most ≤ 9223372036854775807) (hll : l.length ≤ 4294967296)
    (hs : Sat s w (Blk b (.cells #[pv, .int .i64 e] T) :: OwnB pv l :: F)) :
    Calls P n_digit_Eye_Num #[.pointer (some ⟨b, 0, none⟩), .int .i64 most] w (Ret s (fun _ => .int .i64 (eyeNum (e, l) most).1)
      (fun v' => Blk b (.cells #[v', .int .i64 (eyeNum (e, l) most).2.1] T) :: OwnB v' (eyeNum (e, l) most).2.2 :: F) (fun _ => True)) := by
  by_cases he : e = 0
  · subst he
    have hnum : eyeNum (0, l) most = getN l 0 0 most := by simp [eyeNum]
    rw [hnum]
    refine enter K.fn_digit_Eye_Num rfl K.nt_digit_Eye_Num rfl hs ?_
    clear hs w; intro a w h
    refine c_seq (c_region ?_)
    refine wv h (r_assign h rfl) rfl ?_
    clear h a w; intro a w h
    refine wnil (c_then ?_)
    refine c_seq ?_
    refine c_seq (c_region ?_)
    refine wv h (r_move h rfl) rfl ?_
    clear h a w; intro a w h
    refine wv h (r_ptreq_nil h K.u_p_digit_Eye rfl rfl) rfl ?_
    clear h a w; intro a w h
    refine wv h (r_move h rfl) rfl ?_
    clear h a w; intro a w h
    refine wvg h (r_move h rfl) rfl rfl ?_
    clear h a w; intro a w h
    refine wvg h (r_nilCheck h rfl) rfl rfl ?_
    clear h a w; intro a w h
    refine wvg h (r_fieldAddr h 1 rfl K.u_digit_Eye rfl K.sz_api_Errno rfl rfl) rfl rfl ?_
    clear h a w; intro a w h
    refine wvg h (r_load h rfl K.u_api_Errno rfl 0 rfl rfl) rfl rfl ?_
    clear h a w; intro a w h
    refine wvg h (r_bin h rfl rfl (B.neq_int)) rfl rfl ?_
    clear h a w; intro a w h
    have hd0 : decide ((0 : Int) ≠ 0) = false := by decide
    rw [hd0] at h
    refine wv h (r_pick_false h rfl rfl) rfl ?_
    clear h a w; intro a w h
    refine wnil (c_then ?_)
    refine c_false h rfl ?_
    refine c_skip ?_
    refine c_then ?_
    refine c_seq (c_region ?_)
    refine wv h (r_assign h rfl) rfl ?_
    clear h a w; intro a w h
    refine wnil (c_then ?_)
    refine c_seq ?_
    refine c_seq (c_region ?_)
    refine wv h (r_move h rfl) rfl ?_
    clear h a w; intro a w h
    refine wv h (r_nilCheck h rfl) rfl ?_
    clear h a w; intro a w h
    refine wv h (r_fieldAddr0 h rfl K.u_digit_Eye rfl K.sz_S_uint8 rfl rfl) rfl ?_
    clear h a w; intro a w h
    refine wv h (r_load h rfl K.u_S_uint8 rfl 0 rfl rfl) rfl ?_
    clear h a w; intro a w h
    refine wv h (r_lenV h rfl K.u_S_uint8 (by exact Views.own 1 rfl)) rfl ?_
    clear h a w; intro a w h
    refine wv h (r_move h rfl) rfl ?_
    clear h a w; intro a w h
    refine wnil (c_then ?_)
    refine c_block ?_
    refine c_loop (X := Nat × UInt64) (fun x => [(0, .pointer (some ⟨b, 0, none⟩)), (1, .int .i64 most), (5, w64 x.2), (20, pv), (21, .int .i64 (l.length : Int)), (22, .int .i64 (x.1 : Int))]) (fun x => Blk b (.cells #[pv, .int .i64 0] T) :: OwnB pv l :: F)
      (fun x => x.1 ≤ l.length ∧ x.1 ≤ 9 ∧ x.2.toNat < 128 ^ x.1 ∧ getN l 0 0 most = getN (l.drop x.1) x.1 x.2.toNat most) (fun x => l.length - x.1) (0, 0) (h.keep [0, 1, 5, 20, 21, 22]) ⟨by omega, by omega, by decide, rfl⟩ ?_
    clear h a w; intro x a w hx h
    obtain ⟨i, u⟩ := x
    obtain ⟨hx1, hx2, hx3, hx4⟩ := hx
    simp only at h hx1 hx2 hx3 hx4
    as_aux_lemma =>
     refine c_seq (c_region ?_)
     refine wv h (r_bin h rfl rfl (B.lss_int)) rfl ?_
     clear h a w; intro a w h
     refine wnil (c_then ?_)
     refine c_seq ?_
     refine c_condD h rfl (fun ht2 => ?_) (fun ht2 => ?_)
     ·
      obtain ⟨c, hc⟩ : ∃ c, l[i]? = some c := ⟨l[i]'(by omega), List.getElem?_eq_getElem (by omega)⟩
      rw [key_drop hc] at hx4
      refine c_skip ?_
      refine c_then ?_
      refine c_seq ?_
      refine c_block ?_
      refine c_seq (c_region ?_)
      refine wv h (r_move h rfl) rfl ?_
      clear h a w; intro a w h
      refine wl rfl (op_indexAddrb h rfl rfl K.u_S_uint8 K.sz_uint8 (ViewsB.own 1 rfl) i rfl hc rfl ?_)
      clear h a w; intro p a w hcc h
      refine wv h (r_load1 h rfl K.u_uint8 rfl (by assumption)) rfl ?_
      clear h a w; intro a w h
      refine wv h (r_assign h rfl) rfl ?_
      clear h a w; intro a w h
      refine wv h (r_assign h rfl) rfl ?_
      clear h a w; intro a w h
      refine wnil (c_then ?_)
      refine c_seq ?_
      refine c_meet h (X := Unit) (fun _ => [(36, .bool (decide (i = 9 ∨ (c = 128 ∧ 0 < i)))), (6, .int .i64 (i : Int)), (7, bv c), (0, .pointer (some ⟨b, 0, none⟩)), (1, .int .i64 most), (5, w64 u), (20, pv), (21, .int .i64 (l.length : Int)), (22, .int .i64 (i : Int))]) (fun _ => Blk b (.cells #[pv, .int .i64 0] T) :: OwnB pv l :: F) (fun _ => True) ?_ ?_
      ·
       have hcases : (∃ q : Bool, decide ((i : Int) = 9) = true ∧ decide (c = 128) = q ∧ decide (i = 9 ∨ (c = 128 ∧ 0 < i)) = true) ∨ (decide ((i : Int) = 9) = false ∧ decide (c = 128) = false ∧ decide (i = 9 ∨ (c = 128 ∧ 0 < i)) = false) ∨ (decide ((i : Int) = 9) = false ∧ decide (c = 128) = true ∧ decide (i = 9 ∨ (c = 128 ∧ 0 < i)) = decide (0 < (i : Int))) := by
         by_cases h9 : i = 9
         · left; exact ⟨_, by simp [h9], rfl, by simp [h9]⟩
         · right
           have h9' : ¬ ((i : Int) = 9) := by omega
           by_cases hc8 : c = 128
           · right; exact ⟨by simp [h9'], by simp [hc8], by simp [h9, hc8]⟩
           · left; exact ⟨by simp [h9'], by simp [hc8], by simp [h9, hc8]⟩
       rcases hcases with ⟨q, hd1, hd2, hd3⟩ | ⟨hd1, hd2, hd3⟩ | ⟨hd1, hd2, hd3⟩
       all_goals
        refine c_region ?_
        refine wv h (r_move h rfl) rfl ?_
        clear h a w; intro a w h
        refine wv h (r_bin h rfl rfl (B.eql_int)) rfl ?_
        clear h a w; intro a w h
        rw [hd1] at h
        refine wv h (r_move h rfl) rfl ?_
        clear h a w; intro a w h
        first | (refine wvg h (r_move h rfl) rfl rfl ?_) | (refine wvs h rfl rfl ?_)
        clear h a w; intro a w h
        first | (refine wvg h (r_bin h rfl rfl (B.eql_u8 (y := 128))) rfl rfl ?_) | (refine wvs h rfl rfl ?_)
        clear h a w; intro a w h
        try simp only [hd2] at h
        first | (refine wvg h (r_move h rfl) rfl rfl ?_) | (refine wvs h rfl rfl ?_)
        clear h a w; intro a w h
        first | (refine wvg h (r_move h rfl) rfl rfl ?_) | (refine wvs h rfl rfl ?_)
        clear h a w; intro a w h
        first | (refine wvg h (r_bin h rfl rfl (B.gtr_int)) rfl rfl ?_) | (refine wvs h rfl rfl ?_)
        clear h a w; intro a w h
        first | (refine wvg h (r_pick_true h rfl rfl) rfl rfl ?_) | (refine wvg h (r_pick_false h rfl rfl) rfl rfl ?_) | (refine wvs h rfl rfl ?_)
        clear h a w; intro a w h
        first | (refine wv h (r_pick_true h rfl rfl) rfl ?_) | (refine wv h (r_pick_false h rfl rfl) rfl ?_)
        clear h a w; intro a w h
        refine wnil (c_then ?_)
        rw [hd3]
        exact ⟨(), h.keep [36, 6, 7, 0, 1, 5, 20, 21, 22], trivial⟩
      ·
       clear h a w; intro z a w hz h
       refine c_condD h rfl (fun ht3 => ?_) (fun ht3 => ?_)
       ·
        have hget : getN (c :: l.drop (i + 1)) i u.toNat most = (0, (7, [])) := by simp only [getN]; rw [if_pos ht3]
        rw [hx4, hget]
        as_aux_lemma =>
         refine c_seq (c_region ?_)
         refine wv h (r_move h rfl) rfl ?_
         clear h a w; intro a w h
         refine wl rfl (op_call h rfl K.go_digit_Eye_fail (eye_fail0 s _ b T pv l 7 F h.2) rfl ?_)
         clear h a w; intro x a w hx h
         refine wnil (c_then ?_)
         refine c_seq (c_region ?_)
         refine wv h (r_assign h rfl) rfl ?_
         clear h a w; intro a w h
         refine wnil (c_then ?_)
         refine c_ret ?_
         exact ret1 h rfl rfl ⟨.slice none 0 0, rfl, h.2, trivial⟩
       ·
        have hi9 : i ≤ 8 := by
          have : ¬ i = 9 := fun hh => ht3 (.inl hh)
          omega
        have hnext := digit_lt u.toNat c.toNat i hx3
        have hp : (128 : Nat) ^ (i + 1) ≤ 128 ^ 9 := Nat.pow_le_pow_right (by omega) (by omega)
        have hp2 : (128 : Nat) ^ 9 = 9223372036854775808 := by decide
        refine c_skip ?_
        refine c_then ?_
        refine c_seq (c_region ?_)
        refine wv h (r_move h rfl) rfl ?_
        clear h a w; intro a w h
        refine wv h (r_move h rfl) rfl ?_
        clear h a w; intro a w h
        refine wv h (r_bin h rfl rfl (B.and_u8 (y := 127))) rfl ?_
        clear h a w; intro a w h
        refine wv h (r_conv h rfl K.u_uint8 K.u_uint64 (C.u64_u8) ) rfl ?_
        clear h a w; intro a w h
        refine wv h (r_move h rfl) rfl ?_
        clear h a w; intro a w h
        refine wv h (r_bin h rfl rfl (B.mul_i64 (by omega) (by omega))) rfl ?_
        clear h a w; intro a w h
        refine wv h (r_bin h rfl rfl (B.shl_u64 (by omega))) rfl ?_
        clear h a w; intro a w h
        refine wv h (r_bin h rfl rfl (B.or_u64)) rfl ?_
        clear h a w; intro a w h
        have hval : (u ||| UInt64.ofNat ((c &&& 127).toUInt64.toNat * 2 ^ (7 * (i : Int)).toNat)).toNat = u.toNat + c.toNat % 128 * 128 ^ i := by
          have e0 : (7 * (i : Int)).toNat = 7 * i := by omega
          have e1 : (c &&& 127).toUInt64.toNat = c.toNat % 128 := by
            rw [UInt8.toNat_toUInt64, UInt8.toNat_and]
            exact Nat.and_two_pow_sub_one_eq_mod c.toNat 7
          have e2 : c.toNat % 128 * 2 ^ (7 * i) < 2 ^ 64 := by
            have h128 : (128 : Nat) ^ i = 2 ^ (7 * i) := by rw [Nat.pow_mul]
            rw [← h128]; omega
          rw [UInt64.toNat_or, UInt64.toNat_ofNat', e0, e1, Nat.mod_eq_of_lt e2, or_add _ _ _ hx3]
        generalize (u ||| UInt64.ofNat ((c &&& 127).toUInt64.toNat * 2 ^ (7 * (i : Int)).toNat)) = u2 at h hval
        refine wv h (r_assign h rfl) rfl ?_
        clear h a w; intro a w h
        refine wnil (c_then ?_)
        refine c_seq ?_
        refine c_seq (c_region ?_)
        refine wv h (r_move h rfl) rfl ?_
        clear h a w; intro a w h
        refine wv h (r_bin h rfl rfl (B.lss_u8 (y := 128))) rfl ?_
        clear h a w; intro a w h
        refine wnil (c_then ?_)
        refine c_condD h rfl (fun ht4 => ?_) (fun ht4 => ?_)
        ·
         have hlt8 : c < 128 := ht4
         have hget : getN (c :: l.drop (i + 1)) i u.toNat most = getN (l.drop (i + 1)) (i + 1) u2.toNat most := by
           simp only [getN]; rw [if_neg ht3, if_pos hlt8, hval]
         as_aux_lemma =>
          refine c_exit ?_
          refine e_then ?_
          refine e_here ?_
          refine c_then ?_
          refine c_region ?_
          refine wv h (r_bin h rfl rfl (B.add_i64 (by omega) (by omega))) rfl ?_
          clear h a w; intro a w h
          refine wv h (r_move h rfl) rfl ?_
          clear h a w; intro a w h
          refine wnil ?_
          exact ⟨(i + 1, u2), h.keep [0, 1, 5, 20, 21, 22], ⟨by simp only; omega, by simp only; omega, by simp only; omega, by simp only; rw [hx4, hget]⟩, by simp only; omega⟩
        ·
         have hge8 : ¬ c < 128 := ht4
         have hgt : (UInt64.ofInt (max most 0) < u2) ↔ max most 0 < ((u.toNat + c.toNat % 128 * 128 ^ i : Nat) : Int) := by
           have e3 : (UInt64.ofInt (max most 0)).toNat = (max most 0).toNat := by
             have : max most 0 = ((max most 0).toNat : Int) := by omega
             rw [this, ofInt_nat _ (by omega)]; omega
           rw [UInt64.lt_iff_toNat_lt, e3, hval]; omega
         refine c_skip ?_
         refine c_then ?_
         refine c_seq ?_
         refine c_seq (c_region ?_)
         refine wv h (r_move h rfl) rfl ?_
         clear h a w; intro a w h
         refine wv h (r_move h rfl) rfl ?_
         clear h a w; intro a w h
         refine wv h (r_max2 h rfl rfl) rfl ?_
         clear h a w; intro a w h
         refine wv h (r_conv h rfl K.u_int K.u_uint64 (C.u64_i64) ) rfl ?_
         clear h a w; intro a w h
         refine wv h (r_bin h rfl rfl (B.gtr_u64)) rfl ?_
         clear h a w; intro a w h
         refine wnil (c_then ?_)
         refine c_condD h rfl (fun ht5 => ?_) (fun ht5 => ?_)
         ·
          have hget : getN (c :: l.drop (i + 1)) i u.toNat most = (0, (5, [])) := by
            simp only [getN]; rw [if_neg ht3, if_neg hge8, if_pos (hgt.1 ht5)]
          rw [hx4, hget]
          as_aux_lemma =>
           refine c_seq (c_region ?_)
           refine wv h (r_move h rfl) rfl ?_
           clear h a w; intro a w h
           refine wl rfl (op_call h rfl K.go_digit_Eye_fail (eye_fail0 s _ b T pv l 5 F h.2) rfl ?_)
           clear h a w; intro x a w hx h
           refine wnil (c_then ?_)
           refine c_seq (c_region ?_)
           refine wv h (r_assign h rfl) rfl ?_
           clear h a w; intro a w h
           refine wnil (c_then ?_)
           refine c_ret ?_
           exact ret1 h rfl rfl ⟨.slice none 0 0, rfl, h.2, trivial⟩
         ·
          have hget : getN (c :: l.drop (i + 1)) i u.toNat most = (((u.toNat + c.toNat % 128 * 128 ^ i : Nat) : Int), (0, l.drop (i + 1))) := by
            simp only [getN]; rw [if_neg ht3, if_neg hge8, if_neg (fun hh => ht5 (hgt.2 hh))]
          rw [hx4, hget]
          refine c_skip ?_
          refine c_then ?_
          refine c_seq (c_region ?_)
          refine wv h (r_move h rfl) rfl ?_
          clear h a w; intro a w h
          refine wv h (r_move h rfl) rfl ?_
          clear h a w; intro a w h
          refine wv h (r_nilCheck h rfl) rfl ?_
          clear h a w; intro a w h
          refine wv h (r_fieldAddr0 h rfl K.u_digit_Eye rfl K.sz_S_uint8 rfl rfl) rfl ?_
          clear h a w; intro a w h
          refine wv h (r_load h rfl K.u_S_uint8 rfl 0 rfl rfl) rfl ?_
          clear h a w; intro a w h
          refine wv h (r_move h rfl) rfl ?_
          clear h a w; intro a w h
          refine wv h (r_bin h rfl rfl (B.add_i64 (by omega) (by omega))) rfl ?_
          clear h a w; intro a w h
          refine wl rfl (op_sliceOwnb h rfl K.u_S_uint8 K.sz_uint8 1 rfl (i + 1) l.length ⟨_, rfl⟩ rfl (by omega) (by omega) rfl ?_)
          clear h a w; intro v2 a w h
          refine wv h (r_nilCheck h rfl) rfl ?_
          clear h a w; intro a w h
          refine wv h (r_fieldAddr0 h rfl K.u_digit_Eye rfl K.sz_S_uint8 rfl rfl) rfl ?_
          clear h a w; intro a w h
          refine wl rfl (op_store h rfl rfl K.sz_S_uint8 (by exact Views.oneCell (Views.own 1 rfl) h.2) 0 rfl rfl rfl ?_)
          clear h a w; intro a w h
          refine wnil (c_then ?_)
          refine c_seq (c_region ?_)
          refine wv h (r_move h rfl) rfl ?_
          clear h a w; intro a w h
          refine wv h (r_conv h rfl K.u_uint64 K.u_int (C.i64_u64 (by omega))) rfl ?_
          clear h a w; intro a w h
          refine wv h (r_assign h rfl) rfl ?_
          clear h a w; intro a w h
          refine wnil (c_then ?_)
          refine c_ret ?_
          refine ret1 h rfl rfl ⟨v2, ?_, ?_, trivial⟩
          · rw [hval]
          · have h2 := h.2
            have e4 : (l.drop (i + 1)).take (l.length - (i + 1)) = l.drop (i + 1) := List.take_of_length_le (by simp)
            simp only [List.set_cons_zero, List.set_cons_succ, e4] at h2
            exact h2
     ·
      have hiN : i = l.length := by omega
      have hget : getN (l.drop i) i u.toNat most = (0, (6, [])) := by rw [hiN, List.drop_length]; rfl
      rw [hx4, hget]
      refine c_exit ?_
      refine e_then ?_
      refine e_then ?_
      refine e_here ?_
      refine c_then ?_
      refine c_seq (c_region ?_)
      refine wv h (r_move h rfl) rfl ?_
      clear h a w; intro a w h
      refine wl rfl (op_call h rfl K.go_digit_Eye_fail (eye_fail0 s _ b T pv l 6 F h.2) rfl ?_)
      clear h a w; intro x a w hx h
      refine wnil (c_then ?_)
      refine c_seq (c_region ?_)
      refine wv h (r_assign h rfl) rfl ?_
      clear h a w; intro a w h
      refine wnil (c_then ?_)
      refine c_ret ?_
      exact ret1 h rfl rfl ⟨.slice none 0 0, rfl, h.2, trivial⟩
  · have hnum : eyeNum (e, l) most = (0, (e, l)) := by simp [eyeNum, he]
    have hd : decide (e ≠ 0) = true := decide_eq_true he
    rw [hnum]
    refine enter K.fn_digit_Eye_Num rfl K.nt_digit_Eye_Num rfl hs ?_
    clear hs w; intro a w h
    refine c_seq (c_region ?_)
    refine wv h (r_assign h rfl) rfl ?_
    clear h a w; intro a w h
    refine wnil (c_then ?_)
    refine c_seq ?_
    refine c_seq (c_region ?_)
    refine wv h (r_move h rfl) rfl ?_
    clear h a w; intro a w h
    refine wv h (r_ptreq_nil h K.u_p_digit_Eye rfl rfl) rfl ?_
    clear h a w; intro a w h
    refine wv h (r_move h rfl) rfl ?_
    clear h a w; intro a w h
    refine wvg h (r_move h rfl) rfl rfl ?_
    clear h a w; intro a w h
    refine wvg h (r_nilCheck h rfl) rfl rfl ?_
    clear h a w; intro a w h
    refine wvg h (r_fieldAddr h 1 rfl K.u_digit_Eye rfl K.sz_api_Errno rfl rfl) rfl rfl ?_
    clear h a w; intro a w h
    refine wvg h (r_load h rfl K.u_api_Errno rfl 0 rfl rfl) rfl rfl ?_
    clear h a w; intro a w h
    refine wvg h (r_bin h rfl rfl (B.neq_int)) rfl rfl ?_
    clear h a w; intro a w h
    rw [hd] at h
    refine wv h (r_pick_false h rfl rfl) rfl ?_
    clear h a w; intro a w h
    refine wnil (c_then ?_)
    refine c_true h rfl ?_
    refine c_seq (c_region ?_)
    refine wv h (r_assign h rfl) rfl ?_
    clear h a w; intro a w h
    refine wnil (c_then ?_)
    refine c_ret ?_
    exact ret1 h rfl rfl ⟨pv, rfl, h.2, trivial⟩

theorem eye_raw (s w : World) (b : Nat) (T : TypeId) (pv : Value) (l : List UInt8) (e m : Int) (F : List HItem) (hll : l.length ≤ 4294967296)
    (hs : Sat s w (Blk b (.cells #[pv, .int .i64 e] T) :: OwnB pv l :: F)) :
    Calls P n_digit_Eye_Raw #[.pointer (some ⟨b, 0, none⟩), .int .i64 m] w (Ret s (fun x : Value × Value => x.2)
      (fun x => OwnB x.2 (eyeRaw (e, l) m).1 :: Blk b (.cells #[x.1, .int .i64 (eyeRaw (e, l) m).2.1] T) :: OwnB x.1 (eyeRaw (e, l) m).2.2 :: F) (fun _ => True)) := by
  by_cases he : e = 0
  · subst he
    by_cases hm : m ≤ 0
    · have hr : eyeRaw (0, l) m = ([], (0, l)) := by simp [eyeRaw, hm]
      rw [hr]
      refine enter K.fn_digit_Eye_Raw rfl K.nt_digit_Eye_Raw rfl hs ?_
      clear hs w; intro a w h
      refine c_seq (c_region ?_)
      refine wv h (r_assign h rfl) rfl ?_
      clear h a w; intro a w h
      refine wnil (c_then ?_)
      refine c_seq ?_
      refine c_seq (c_region ?_)
      refine wv h (r_move h rfl) rfl ?_
      clear h a w; intro a w h
      refine wv h (r_ptreq_nil h K.u_p_digit_Eye rfl rfl) rfl ?_
      clear h a w; intro a w h
      refine wv h (r_move h rfl) rfl ?_
      clear h a w; intro a w h
      refine wvg h (r_move h rfl) rfl rfl ?_
      clear h a w; intro a w h
      refine wvg h (r_nilCheck h rfl) rfl rfl ?_
      clear h a w; intro a w h
      refine wvg h (r_fieldAddr h 1 rfl K.u_digit_Eye rfl K.sz_api_Errno rfl rfl) rfl rfl ?_
      clear h a w; intro a w h
      refine wvg h (r_load h rfl K.u_api_Errno rfl 0 rfl rfl) rfl rfl ?_
      clear h a w; intro a w h
      refine wvg h (r_bin h rfl rfl (B.neq_int)) rfl rfl ?_
      clear h a w; intro a w h
      have hd0 : decide ((0 : Int) ≠ 0) = false := by decide
      rw [hd0] at h
      refine wv h (r_pick_false h rfl rfl) rfl ?_
      clear h a w; intro a w h
      refine wv h (r_move h rfl) rfl ?_
      clear h a w; intro a w h
      refine wvg h (r_move h rfl) rfl rfl ?_
      clear h a w; intro a w h
      refine wvg h (r_bin h rfl rfl (B.leq_int)) rfl rfl ?_
      clear h a w; intro a w h
      have hd1 : decide (m ≤ 0) = true := decide_eq_true hm
      rw [hd1] at h
      refine wv h (r_pick_false h rfl rfl) rfl ?_
      clear h a w; intro a w h
      refine wnil (c_then ?_)
      refine c_true h rfl ?_
      refine c_seq (c_region ?_)
      refine wv h (r_assign h rfl) rfl ?_
      clear h a w; intro a w h
      refine wnil (c_then ?_)
      refine c_ret ?_
      exact ret1 h rfl rfl ⟨(pv, .slice none 0 0), rfl, h.addNilb.2, trivial⟩
    · by_cases hlt : (l.length : Int) < m
      · have hr : eyeRaw (0, l) m = ([], (6, [])) := by simp [eyeRaw, hm, hlt]
        rw [hr]
        refine enter K.fn_digit_Eye_Raw rfl K.nt_digit_Eye_Raw rfl hs ?_
        clear hs w; intro a w h
        refine c_seq (c_region ?_)
        refine wv h (r_assign h rfl) rfl ?_
        clear h a w; intro a w h
        refine wnil (c_then ?_)
        refine c_seq ?_
        refine c_seq (c_region ?_)
        refine wv h (r_move h rfl) rfl ?_
        clear h a w; intro a w h
        refine wv h (r_ptreq_nil h K.u_p_digit_Eye rfl rfl) rfl ?_
        clear h a w; intro a w h
        refine wv h (r_move h rfl) rfl ?_
        clear h a w; intro a w h
        refine wvg h (r_move h rfl) rfl rfl ?_
        clear h a w; intro a w h
        refine wvg h (r_nilCheck h rfl) rfl rfl ?_
        clear h a w; intro a w h
        refine wvg h (r_fieldAddr h 1 rfl K.u_digit_Eye rfl K.sz_api_Errno rfl rfl) rfl rfl ?_
        clear h a w; intro a w h
        refine wvg h (r_load h rfl K.u_api_Errno rfl 0 rfl rfl) rfl rfl ?_
        clear h a w; intro a w h
        refine wvg h (r_bin h rfl rfl (B.neq_int)) rfl rfl ?_
        clear h a w; intro a w h
        have hd0 : decide ((0 : Int) ≠ 0) = false := by decide
        rw [hd0] at h
        refine wv h (r_pick_false h rfl rfl) rfl ?_
        clear h a w; intro a w h
        refine wv h (r_move h rfl) rfl ?_
        clear h a w; intro a w h
        refine wvg h (r_move h rfl) rfl rfl ?_
        clear h a w; intro a w h
        refine wvg h (r_bin h rfl rfl (B.leq_int)) rfl rfl ?_
        clear h a w; intro a w h
        have hd1 : decide (m ≤ 0) = false := decide_eq_false hm
        rw [hd1] at h
        refine wv h (r_pick_false h rfl rfl) rfl ?_
        clear h a w; intro a w h
        refine wnil (c_then ?_)
        refine c_false h rfl ?_
        refine c_skip ?_
        refine c_then ?_
        refine c_seq ?_
        refine c_seq (c_region ?_)
        refine wv h (r_move h rfl) rfl ?_
        clear h a w; intro a w h
        refine wv h (r_move h rfl) rfl ?_
        clear h a w; intro a w h
        refine wv h (r_nilCheck h rfl) rfl ?_
        clear h a w; intro a w h
        refine wv h (r_fieldAddr0 h rfl K.u_digit_Eye rfl K.sz_S_uint8 rfl rfl) rfl ?_
        clear h a w; intro a w h
        refine wv h (r_load h rfl K.u_S_uint8 rfl 0 rfl rfl) rfl ?_
        clear h a w; intro a w h
        refine wv h (r_lenB h rfl K.u_S_uint8 (ViewsB.own 1 rfl)) rfl ?_
        clear h a w; intro a w h
        refine wv h (r_bin h rfl rfl (B.gtr_int)) rfl ?_
        clear h a w; intro a w h
        have hd2 : decide ((l.length : Int) < m) = true := decide_eq_true hlt
        rw [hd2] at h
        refine wnil (c_then ?_)
        refine c_true h rfl ?_
        refine c_seq (c_region ?_)
        refine wv h (r_move h rfl) rfl ?_
        clear h a w; intro a w h
        refine wl rfl (op_call h rfl K.go_digit_Eye_fail (eye_fail0 s _ b T pv l 6 F h.2) rfl ?_)
        clear h a w; intro x a w hx h
        refine wnil (c_then ?_)
        refine c_seq (c_region ?_)
        refine wv h (r_assign h rfl) rfl ?_
        clear h a w; intro a w h
        refine wnil (c_then ?_)
        refine c_ret ?_
        exact ret1 h rfl rfl ⟨(.slice none 0 0, .slice none 0 0), rfl, h.addNilb.2, trivial⟩
      · have hr : eyeRaw (0, l) m = (l.take m.toNat, (0, l.drop m.toNat)) := by simp [eyeRaw, hm, hlt]
        rw [hr]
        obtain ⟨k, rfl⟩ : ∃ k : Nat, m = k := ⟨m.toNat, by omega⟩
        have htl : (l.take k).length = k := by rw [List.length_take]; omega
        refine enter K.fn_digit_Eye_Raw rfl K.nt_digit_Eye_Raw rfl hs ?_
        clear hs w; intro a w h
        refine c_seq (c_region ?_)
        refine wv h (r_assign h rfl) rfl ?_
        clear h a w; intro a w h
        refine wnil (c_then ?_)
        refine c_seq ?_
        refine c_seq (c_region ?_)
        refine wv h (r_move h rfl) rfl ?_
        clear h a w; intro a w h
        refine wv h (r_ptreq_nil h K.u_p_digit_Eye rfl rfl) rfl ?_
        clear h a w; intro a w h
        refine wv h (r_move h rfl) rfl ?_
        clear h a w; intro a w h
        refine wvg h (r_move h rfl) rfl rfl ?_
        clear h a w; intro a w h
        refine wvg h (r_nilCheck h rfl) rfl rfl ?_
        clear h a w; intro a w h
        refine wvg h (r_fieldAddr h 1 rfl K.u_digit_Eye rfl K.sz_api_Errno rfl rfl) rfl rfl ?_
        clear h a w; intro a w h
        refine wvg h (r_load h rfl K.u_api_Errno rfl 0 rfl rfl) rfl rfl ?_
        clear h a w; intro a w h
        refine wvg h (r_bin h rfl rfl (B.neq_int)) rfl rfl ?_
        clear h a w; intro a w h
        have hd0 : decide ((0 : Int) ≠ 0) = false := by decide
        rw [hd0] at h
        refine wv h (r_pick_false h rfl rfl) rfl ?_
        clear h a w; intro a w h
        refine wv h (r_move h rfl) rfl ?_
        clear h a w; intro a w h
        refine wvg h (r_move h rfl) rfl rfl ?_
        clear h a w; intro a w h
        refine wvg h (r_bin h rfl rfl (B.leq_int)) rfl rfl ?_
        clear h a w; intro a w h
        have hd1 : decide ((k : Int) ≤ 0) = false := decide_eq_false hm
        rw [hd1] at h
        refine wv h (r_pick_false h rfl rfl) rfl ?_
        clear h a w; intro a w h
        refine wnil (c_then ?_)
        refine c_false h rfl ?_
        refine c_skip ?_
        refine c_then ?_
        refine c_seq ?_
        refine c_seq (c_region ?_)
        refine wv h (r_move h rfl) rfl ?_
        clear h a w; intro a w h
        refine wv h (r_move h rfl) rfl ?_
        clear h a w; intro a w h
        refine wv h (r_nilCheck h rfl) rfl ?_
        clear h a w; intro a w h
        refine wv h (r_fieldAddr0 h rfl K.u_digit_Eye rfl K.sz_S_uint8 rfl rfl) rfl ?_
        clear h a w; intro a w h
        refine wv h (r_load h rfl K.u_S_uint8 rfl 0 rfl rfl) rfl ?_
        clear h a w; intro a w h
        refine wv h (r_lenB h rfl K.u_S_uint8 (ViewsB.own 1 rfl)) rfl ?_
        clear h a w; intro a w h
        refine wv h (r_bin h rfl rfl (B.gtr_int)) rfl ?_
        clear h a w; intro a w h
        have hd2 : decide ((l.length : Int) < (k : Int)) = false := decide_eq_false hlt
        rw [hd2] at h
        refine wnil (c_then ?_)
        refine c_false h rfl ?_
        refine c_skip ?_
        refine c_then ?_
        refine c_seq (c_region ?_)
        refine wv h (r_move h rfl) rfl ?_
        clear h a w; intro a w h
        refine wv h (r_nilCheck h rfl) rfl ?_
        clear h a w; intro a w h
        refine wv h (r_fieldAddr0 h rfl K.u_digit_Eye rfl K.sz_S_uint8 rfl rfl) rfl ?_
        clear h a w; intro a w h
        refine wv h (r_load h rfl K.u_S_uint8 rfl 0 rfl rfl) rfl ?_
        clear h a w; intro a w h
        refine wv h (r_move h rfl) rfl ?_
        clear h a w; intro a w h
        refine wv h (r_sliceB h rfl K.u_S_uint8 K.sz_uint8 (ViewsB.own 1 rfl) 0 k rfl ⟨_, rfl⟩ (by omega) (by omega)) rfl ?_
        clear h a w; intro a w h
        have hvv : ViewsB (Blk b (.cells #[pv, .int .i64 0] T) :: OwnB pv l :: F) (subV 1 pv 0 k) (l.take k) := by
          have := ViewsB.sub (ViewsB.own (L := Blk b (.cells #[pv, .int .i64 0] T) :: OwnB pv l :: F) 1 rfl) (i := 0) (j := k) (by omega) (by omega)
          simpa using this
        refine wl rfl (op_appendnbs h rfl rfl K.u_S_uint8 K.sz_uint8 K.z_uint8 rfl rfl (Src.bytes K.u_S_uint8 hvv h.2) (by omega) rfl ?_)
        clear h a w; intro v2 a w h
        refine wv h (r_assign h rfl) rfl ?_
        clear h a w; intro a w h
        refine wnil (c_then ?_)
        refine c_seq (c_region ?_)
        refine wv h (r_move h rfl) rfl ?_
        clear h a w; intro a w h
        refine wv h (r_move h rfl) rfl ?_
        clear h a w; intro a w h
        refine wv h (r_nilCheck h rfl) rfl ?_
        clear h a w; intro a w h
        refine wv h (r_fieldAddr0 h rfl K.u_digit_Eye rfl K.sz_S_uint8 rfl rfl) rfl ?_
        clear h a w; intro a w h
        refine wv h (r_load h rfl K.u_S_uint8 rfl 1 rfl rfl) rfl ?_
        clear h a w; intro a w h
        refine wv h (r_move h rfl) rfl ?_
        clear h a w; intro a w h
        refine wl rfl (op_sliceOwnb h rfl K.u_S_uint8 K.sz_uint8 2 rfl k l.length ⟨_, rfl⟩ rfl (by omega) (by omega) rfl ?_)
        clear h a w; intro v3 a w h
        refine wv h (r_nilCheck h rfl) rfl ?_
        clear h a w; intro a w h
        refine wv h (r_fieldAddr0 h rfl K.u_digit_Eye rfl K.sz_S_uint8 rfl rfl) rfl ?_
        clear h a w; intro a w h
        refine wl rfl (op_store h rfl rfl K.sz_S_uint8 (Views.oneCell (Views.own 2 rfl) h.2) 1 rfl rfl rfl ?_)
        clear h a w; intro a w h
        refine wnil (c_then ?_)
        refine c_seq (c_region ?_)
        refine wv h (r_move h rfl) rfl ?_
        clear h a w; intro a w h
        refine wv h (r_assign h rfl) rfl ?_
        clear h a w; intro a w h
        refine wnil (c_then ?_)
        refine c_ret ?_
        refine ret1 h rfl rfl ⟨(v3, v2), rfl, ?_, trivial⟩
        have h2 := h.2
        have e4 : (l.drop k).take (l.length - k) = l.drop k := List.take_of_length_le (by simp)
        simp only [List.set_cons_zero, List.set_cons_succ, e4] at h2
        exact h2
  · have hr : eyeRaw (e, l) m = ([], (e, l)) := by simp [eyeRaw, he]
    have hd : decide (e ≠ 0) = true := decide_eq_true he
    rw [hr]
    refine enter K.fn_digit_Eye_Raw rfl K.nt_digit_Eye_Raw rfl hs ?_
    clear hs w; intro a w h
    refine c_seq (c_region ?_)
    refine wv h (r_assign h rfl) rfl ?_
    clear h a w; intro a w h
    refine wnil (c_then ?_)
    refine c_seq ?_
    refine c_seq (c_region ?_)
    refine wv h (r_move h rfl) rfl ?_
    clear h a w; intro a w h
    refine wv h (r_ptreq_nil h K.u_p_digit_Eye rfl rfl) rfl ?_
    clear h a w; intro a w h
    refine wv h (r_move h rfl) rfl ?_
    clear h a w; intro a w h
    refine wvg h (r_move h rfl) rfl rfl ?_
    clear h a w; intro a w h
    refine wvg h (r_nilCheck h rfl) rfl rfl ?_
    clear h a w; intro a w h
    refine wvg h (r_fieldAddr h 1 rfl K.u_digit_Eye rfl K.sz_api_Errno rfl rfl) rfl rfl ?_
    clear h a w; intro a w h
    refine wvg h (r_load h rfl K.u_api_Errno rfl 0 rfl rfl) rfl rfl ?_
    clear h a w; intro a w h
    refine wvg h (r_bin h rfl rfl (B.neq_int)) rfl rfl ?_
    clear h a w; intro a w h
    rw [hd] at h
    refine wv h (r_pick_false h rfl rfl) rfl ?_
    clear h a w; intro a w h
    refine wv h (r_move h rfl) rfl ?_
    clear h a w; intro a w h
    refine wvs h rfl rfl ?_
    clear h a w; intro a w h
    refine wvs h rfl rfl ?_
    clear h a w; intro a w h
    refine wv h (r_pick_true h rfl rfl) rfl ?_
    clear h a w; intro a w h
    refine wnil (c_then ?_)
    refine c_true h rfl ?_
    refine c_seq (c_region ?_)
    refine wv h (r_assign h rfl) rfl ?_
    clear h a w; intro a w h
    refine wnil (c_then ?_)
    refine c_ret ?_
    exact ret1 h rfl rfl ⟨(pv, .slice none 0 0), rfl, h.addNilb.2, trivial⟩

theorem getN_len : ∀ (l : List UInt8) (i u : Nat) (most : Int), (getN l i u most).2.2.length ≤ l.length
  | [], _, _, _ => by simp [getN]
  | b :: r, i, u, most => by
    simp only [getN]
    have := getN_len r (i + 1) (u + b.toNat % 128 * 128 ^ i) most
    split
    · simp
    · split
      · simp only [List.length_cons]; omega
      · split <;> simp
theorem eyeNum_len (st : Int × List UInt8) (most : Int) : (eyeNum st most).2.2.length ≤ st.2.length := by
  unfold eyeNum; split
  · exact getN_len _ _ _ _
  · simp

/-- the calls of an eye, nil or not -/
theorem eye_fault (s w : World) (b : Nat) (T : TypeId) (pv : Value) (e : Int) (F : List HItem) (hs : Sat s w (Blk b (.cells #[pv, .int .i64 e] T) :: F)) :
    Calls P n_digit_Eye_Fault #[.pointer (some ⟨b, 0, none⟩)] w (Ret s (fun _ : Unit => .int .i64 e) (fun _ => Blk b (.cells #[pv, .int .i64 e] T) :: F) (fun _ => True)) := by
  refine enter K.fn_digit_Eye_Fault rfl K.nt_digit_Eye_Fault rfl hs ?_
  clear hs w; intro a w h
  refine c_seq (c_region ?_)
  refine wv h (r_assign h rfl) rfl ?_
  clear h a w; intro a w h
  refine wnil (c_then ?_)
  refine c_seq ?_
  refine c_seq (c_region ?_)
  refine wv h (r_move h rfl) rfl ?_
  clear h a w; intro a w h
  refine wv h (r_ptreq_nil h K.u_p_digit_Eye rfl rfl) rfl ?_
  clear h a w; intro a w h
  refine wnil (c_then ?_)
  refine c_false h rfl ?_
  refine c_skip ?_
  refine c_then ?_
  refine c_seq (c_region ?_)
  refine wv h (r_move h rfl) rfl ?_
  clear h a w; intro a w h
  refine wv h (r_nilCheck h rfl) rfl ?_
  clear h a w; intro a w h
  refine wv h (r_fieldAddr h 1 rfl K.u_digit_Eye rfl K.sz_api_Errno rfl rfl) rfl ?_
  clear h a w; intro a w h
  refine wv h (r_load h rfl K.u_api_Errno rfl 0 rfl rfl) rfl ?_
  clear h a w; intro a w h
  refine wv h (r_assign h rfl) rfl ?_
  clear h a w; intro a w h
  refine wnil (c_then ?_)
  refine c_ret ?_
  exact ret1 h rfl rfl ⟨(), rfl, h.2, trivial⟩
theorem eye_fault_nil (s w : World) (F : List HItem) (hs : Sat s w F) :
    Calls P n_digit_Eye_Fault #[.pointer none] w (Ret s (fun _ : Unit => .int .i64 2) (fun _ => F) (fun _ => True)) := by
  refine enter K.fn_digit_Eye_Fault rfl K.nt_digit_Eye_Fault rfl hs ?_
  clear hs w; intro a w h
  refine c_seq (c_region ?_)
  refine wv h (r_assign h rfl) rfl ?_
  clear h a w; intro a w h
  refine wnil (c_then ?_)
  refine c_seq ?_
  refine c_seq (c_region ?_)
  refine wv h (r_move h rfl) rfl ?_
  clear h a w; intro a w h
  refine wv h (r_ptreq_nil h K.u_p_digit_Eye rfl rfl) rfl ?_
  clear h a w; intro a w h
  refine wnil (c_then ?_)
  refine c_true h rfl ?_
  refine c_seq (c_region ?_)
  refine wv h (r_assign h rfl) rfl ?_
  clear h a w; intro a w h
  refine wnil (c_then ?_)
  refine c_ret ?_
  exact ret1 h rfl rfl ⟨(), rfl, h.2, trivial⟩
theorem eye_left (s w : World) (b : Nat) (T : TypeId) (pv : Value) (l : List UInt8) (e : Int) (F : List HItem) (hs : Sat s w (Blk b (.cells #[pv, .int .i64 e] T) :: OwnB pv l :: F)) :
    Calls P n_digit_Eye_Left #[.pointer (some ⟨b, 0, none⟩)] w (Ret s (fun _ : Unit => .int .i64 (l.length : Int)) (fun _ => Blk b (.cells #[pv, .int .i64 e] T) :: OwnB pv l :: F) (fun _ => True)) := by
  refine enter K.fn_digit_Eye_Left rfl K.nt_digit_Eye_Left rfl hs ?_
  clear hs w; intro a w h
  refine c_seq (c_region ?_)
  refine wv h (r_assign h rfl) rfl ?_
  clear h a w; intro a w h
  refine wnil (c_then ?_)
  refine c_seq ?_
  refine c_seq (c_region ?_)
  refine wv h (r_move h rfl) rfl ?_
  clear h a w; intro a w h
  refine wv h (r_ptreq_nil h K.u_p_digit_Eye rfl rfl) rfl ?_
  clear h a w; intro a w h
  refine wnil (c_then ?_)
  refine c_false h rfl ?_
  refine c_skip ?_
  refine c_then ?_
  refine c_seq (c_region ?_)
  refine wv h (r_move h rfl) rfl ?_
  clear h a w; intro a w h
  refine wv h (r_nilCheck h rfl) rfl ?_
  clear h a w; intro a w h
  refine wv h (r_fieldAddr0 h rfl K.u_digit_Eye rfl K.sz_S_uint8 rfl rfl) rfl ?_
  clear h a w; intro a w h
  refine wv h (r_load h rfl K.u_S_uint8 rfl 0 rfl rfl) rfl ?_
  clear h a w; intro a w h
  refine wv h (r_lenB h rfl K.u_S_uint8 (ViewsB.own 1 rfl)) rfl ?_
  clear h a w; intro a w h
  refine wv h (r_assign h rfl) rfl ?_
  clear h a w; intro a w h
  refine wnil (c_then ?_)
  refine c_ret ?_
  exact ret1 h rfl rfl ⟨(), rfl, h.2, trivial⟩
theorem eye_left_nil (s w : World) (F : List HItem) (hs : Sat s w F) :
    Calls P n_digit_Eye_Left #[.pointer none] w (Ret s (fun _ : Unit => .int .i64 0) (fun _ => F) (fun _ => True)) := by
  refine enter K.fn_digit_Eye_Left rfl K.nt_digit_Eye_Left rfl hs ?_
  clear hs w; intro a w h
  refine c_seq (c_region ?_)
  refine wv h (r_assign h rfl) rfl ?_
  clear h a w; intro a w h
  refine wnil (c_then ?_)
  refine c_seq ?_
  refine c_seq (c_region ?_)
  refine wv h (r_move h rfl) rfl ?_
  clear h a w; intro a w h
  refine wv h (r_ptreq_nil h K.u_p_digit_Eye rfl rfl) rfl ?_
  clear h a w; intro a w h
  refine wnil (c_then ?_)
  refine c_true h rfl ?_
  refine c_seq (c_region ?_)
  refine wv h (r_assign h rfl) rfl ?_
  clear h a w; intro a w h
  refine wnil (c_then ?_)
  refine c_ret ?_
  exact ret1 h rfl rfl ⟨(), rfl, h.2, trivial⟩
theorem eye_End (s w : World) (b : Nat) (T : TypeId) (pv : Value) (l : List UInt8) (e : Int) (F : List HItem) (hs : Sat s w (Blk b (.cells #[pv, .int .i64 e] T) :: OwnB pv l :: F)) :
    Calls P n_digit_Eye_End #[.pointer (some ⟨b, 0, none⟩)] w (Ret s (fun _ : Unit => .int .i64 (eyeEnd (e, l))) (fun _ => Blk b (.cells #[pv, .int .i64 e] T) :: OwnB pv l :: F) (fun _ => True)) := by
  by_cases he : e = 0
  · subst he
    have hd : decide ((0 : Int) = 0) = true := by decide
    refine enter K.fn_digit_Eye_End rfl K.nt_digit_Eye_End rfl hs ?_
    clear hs w; intro a w h
    refine c_seq (c_region ?_)
    refine wv h (r_assign h rfl) rfl ?_
    clear h a w; intro a w h
    refine wnil (c_then ?_)
    refine c_seq ?_
    refine c_seq (c_region ?_)
    refine wv h (r_move h rfl) rfl ?_
    clear h a w; intro a w h
    refine wl rfl (op_call h rfl K.go_digit_Eye_Fault (eye_fault s _ b T pv 0 _ h.2) rfl ?_)
    clear h a w; intro x a w hx h
    refine wv h (r_bin h rfl rfl (B.eql_int)) rfl ?_
    clear h a w; intro a w h
    rw [hd] at h
    refine wv h (r_move h rfl) rfl ?_
    clear h a w; intro a w h
    refine wvg h (r_move h rfl) rfl rfl ?_
    clear h a w; intro a w h
    refine wlg h rfl rfl (op_call h rfl K.go_digit_Eye_Left (eye_left s _ b T pv l 0 F h.2) rfl ?_)
    clear h a w; intro x a w hx h
    refine wvg h (r_bin h rfl rfl (B.gtr_int)) rfl rfl ?_
    clear h a w; intro a w h
    refine wv h (r_pick_true h rfl rfl) rfl ?_
    clear h a w; intro a w h
    refine wnil (c_then ?_)
    refine c_condD h rfl (fun ht1 => ?_) (fun ht1 => ?_)
    ·
     have hr : eyeEnd (0, l) = 7 := by simp [eyeEnd]; intro hh; subst hh; simp at ht1
     rw [hr]
     as_aux_lemma =>
      refine c_seq (c_region ?_)
      refine wv h (r_assign h rfl) rfl ?_
      clear h a w; intro a w h
      refine wnil (c_then ?_)
      refine c_ret ?_
      exact ret1 h rfl rfl ⟨(), rfl, h.2, trivial⟩
    ·
     have hr : eyeEnd (0, l) = 0 := by simp [eyeEnd]; exact List.eq_nil_of_length_eq_zero (by omega)
     rw [hr]
     refine c_skip ?_
     refine c_then ?_
     refine c_seq (c_region ?_)
     refine wv h (r_move h rfl) rfl ?_
     clear h a w; intro a w h
     refine wl rfl (op_call h rfl K.go_digit_Eye_Fault (eye_fault s _ b T pv 0 _ h.2) rfl ?_)
     clear h a w; intro x a w hx h
     refine wv h (r_assign h rfl) rfl ?_
     clear h a w; intro a w h
     refine wnil (c_then ?_)
     refine c_ret ?_
     exact ret1 h rfl rfl ⟨(), rfl, h.2, trivial⟩
  · have hd : decide (e = 0) = false := decide_eq_false he
    have hr : eyeEnd (e, l) = e := by simp [eyeEnd, he]
    rw [hr]
    refine enter K.fn_digit_Eye_End rfl K.nt_digit_Eye_End rfl hs ?_
    clear hs w; intro a w h
    refine c_seq (c_region ?_)
    refine wv h (r_assign h rfl) rfl ?_
    clear h a w; intro a w h
    refine wnil (c_then ?_)
    refine c_seq ?_
    refine c_seq (c_region ?_)
    refine wv h (r_move h rfl) rfl ?_
    clear h a w; intro a w h
    refine wl rfl (op_call h rfl K.go_digit_Eye_Fault (eye_fault s _ b T pv e _ h.2) rfl ?_)
    clear h a w; intro x a w hx h
    refine wv h (r_bin h rfl rfl (B.eql_int)) rfl ?_
    clear h a w; intro a w h
    rw [hd] at h
    refine wv h (r_move h rfl) rfl ?_
    clear h a w; intro a w h
    refine wvs h rfl rfl ?_
    clear h a w; intro a w h
    refine wvs h rfl rfl ?_
    clear h a w; intro a w h
    refine wvs h rfl rfl ?_
    clear h a w; intro a w h
    refine wv h (r_pick_false h rfl rfl) rfl ?_
    clear h a w; intro a w h
    refine wnil (c_then ?_)
    refine c_false h rfl ?_
    refine c_skip ?_
    refine c_then ?_
    refine c_seq (c_region ?_)
    refine wv h (r_move h rfl) rfl ?_
    clear h a w; intro a w h
    refine wl rfl (op_call h rfl K.go_digit_Eye_Fault (eye_fault s _ b T pv e _ h.2) rfl ?_)
    clear h a w; intro x a w hx h
    refine wv h (r_assign h rfl) rfl ?_
    clear h a w; intro a w h
    refine wnil (c_then ?_)
    refine c_ret ?_
    exact ret1 h rfl rfl ⟨(), rfl, h.2, trivial⟩
theorem eye_End_nil (s w : World) (F : List HItem) (hs : Sat s w F) :
    Calls P n_digit_Eye_End #[.pointer none] w (Ret s (fun _ : Unit => .int .i64 2) (fun _ => F) (fun _ => True)) := by
  refine enter K.fn_digit_Eye_End rfl K.nt_digit_Eye_End rfl hs ?_
  clear hs w; intro a w h
  refine c_seq (c_region ?_)
  refine wv h (r_assign h rfl) rfl ?_
  clear h a w; intro a w h
  refine wnil (c_then ?_)
  refine c_seq ?_
  refine c_seq (c_region ?_)
  refine wv h (r_move h rfl) rfl ?_
  clear h a w; intro a w h
  refine wl rfl (op_call h rfl K.go_digit_Eye_Fault (eye_fault_nil s _ _ h.2) rfl ?_)
  clear h a w; intro x a w hx h
  refine wv h (r_bin h rfl rfl (B.eql_int)) rfl ?_
  clear h a w; intro a w h
  have hd : decide ((2 : Int) = 0) = false := by decide
  rw [hd] at h
  refine wv h (r_move h rfl) rfl ?_
  clear h a w; intro a w h
  refine wvs h rfl rfl ?_
  clear h a w; intro a w h
  refine wvs h rfl rfl ?_
  clear h a w; intro a w h
  refine wvs h rfl rfl ?_
  clear h a w; intro a w h
  refine wv h (r_pick_false h rfl rfl) rfl ?_
  clear h a w; intro a w h
  refine wnil (c_then ?_)
  refine c_false h rfl ?_
  refine c_skip ?_
  refine c_then ?_
  refine c_seq (c_region ?_)
  refine wv h (r_move h rfl) rfl ?_
  clear h a w; intro a w h
  refine wl rfl (op_call h rfl K.go_digit_Eye_Fault (eye_fault_nil s _ _ h.2) rfl ?_)
  clear h a w; intro x a w hx h
  refine wv h (r_assign h rfl) rfl ?_
  clear h a w; intro a w h
  refine wnil (c_then ?_)
  refine c_ret ?_
  exact ret1 h rfl rfl ⟨(), rfl, h.2, trivial⟩
end Go.Proofs.K

/- Pens and eyes as items of their own: their contracts where they stand. -/
namespace Go.Proofs.K
open Go.Sl

/-- a pen that has laid these bytes -/
def PenI (b : Nat) (l : List UInt8) : HItem := Ex fun v : Value => Sl.Sep [Blk b (.cells #[v] t_digit_Pen), OwnB v l]
/-- an eye: its fault, what is left -/
def EyeI (b : Nat) (st : Int × List UInt8) : HItem := Ex fun v : Value => Sl.Sep [Blk b (.cells #[v, .int .i64 st.1] t_digit_Eye), OwnB v st.2]
theorem PenI_open {s w : World} {b : Nat} {l : List UInt8} {F : List HItem} (h : Sat s w (PenI b l :: F)) : ∃ v, Sat s w (Blk b (.cells #[v] t_digit_Pen) :: OwnB v l :: F) := by
  obtain ⟨v, h⟩ := h.unex
  exact ⟨v, h.unsep⟩
theorem PenI_shut {s w : World} {b : Nat} {l : List UInt8} {F : List HItem} {v : Value} (h : Sat s w (Blk b (.cells #[v] t_digit_Pen) :: OwnB v l :: F)) : Sat s w (PenI b l :: F) :=
  Sat.ex v (Sat.sep (M := [Blk b (.cells #[v] t_digit_Pen), OwnB v l]) h)
theorem EyeI_open {s w : World} {b : Nat} {st : Int × List UInt8} {F : List HItem} (h : Sat s w (EyeI b st :: F)) : ∃ v, Sat s w (Blk b (.cells #[v, .int .i64 st.1] t_digit_Eye) :: OwnB v st.2 :: F) := by
  obtain ⟨v, h⟩ := h.unex
  exact ⟨v, h.unsep⟩
theorem EyeI_shut {s w : World} {b : Nat} {st : Int × List UInt8} {F : List HItem} {v : Value} (h : Sat s w (Blk b (.cells #[v, .int .i64 st.1] t_digit_Eye) :: OwnB v st.2 :: F)) : Sat s w (EyeI b st :: F) :=
  Sat.ex v (Sat.sep (M := [Blk b (.cells #[v, .int .i64 st.1] t_digit_Eye), OwnB v st.2]) h)
/-- a pen that was made just now -/
theorem St_toPen {n : Nat} {s w : World} {a : Act} {E : List (Nat × Value)} {b : Nat} {F : List HItem} (h : St n s a w E (Blk b (.cells #[.slice none 0 0] t_digit_Pen) :: F)) : St n s a w E (PenI b [] :: F) :=
  ⟨h.1, PenI_shut (h.addNilb.2.perm (.swap _ _ _))⟩

theorem pen_Num (s w : World) (b : Nat) (l : List UInt8) (m : Nat) (L : List HItem) (i : Nat) (hi : L[i]? = some (PenI b l)) (hm : m ≤ 9223372036854775807) (hl : l.length + 20 ≤ 4294967296) (hs : Sat s w L) :
    Calls P n_digit_Pen_Num #[.pointer (some ⟨b, 0, none⟩), .int .i64 (m : Int)] w (Ret s (fun _ : Unit => .pointer (some ⟨b, 0, none⟩)) (fun _ => L.set i (PenI b (l ++ numN m))) (fun _ => True)) := by
  refine at0 i hi hs fun F hF h => ?_
  obtain ⟨v, h⟩ := PenI_open h
  exact (pen_num s w b 0 #[v] t_digit_Pen v l m F hm rfl hl h).mono fun _ _ ⟨x, he, h', _⟩ => ⟨(), he, PenI_shut (v := x) h', trivial⟩
theorem pen_Raw (s w : World) (b : Nat) (pv : Value) (l p : List UInt8) (L : List HItem) (i : Nat) (hi : L[i]? = some (PenI b l)) (hp : ViewsB (L.eraseIdx i) pv p) (hl : l.length + p.length ≤ 4294967296) (hs : Sat s w L) :
    Calls P n_digit_Pen_Raw #[.pointer (some ⟨b, 0, none⟩), pv] w (Ret s (fun _ : Unit => .pointer (some ⟨b, 0, none⟩)) (fun _ => L.set i (PenI b (l ++ p))) (fun _ => True)) := by
  refine at0 i hi hs fun F hF h => ?_
  rw [← hF] at hp
  obtain ⟨v, h⟩ := PenI_open h
  exact (pen_raw s w b 0 #[v] t_digit_Pen v pv l p F rfl hl hp h).mono fun _ _ ⟨x, he, h', _⟩ => ⟨(), he, PenI_shut (v := x) h', trivial⟩
theorem eye_New (s w : World) (pv : Value) (p : List UInt8) (F : List HItem) (hp : ViewsB F pv p) (hl : p.length ≤ 4294967296) (hs : Sat s w F) :
    Calls P n_digit_NewEye #[pv] w (Ret s (fun b : Nat => .pointer (some ⟨b, 0, none⟩)) (fun b => EyeI b (0, p) :: F) (fun _ => True)) :=
  (new_eye s w pv p F hl hp hs).mono fun _ _ ⟨x, he, h', _⟩ => ⟨x.1, he, EyeI_shut (v := x.2) h', trivial⟩
theorem eye_Num (s w : World) (b : Nat) (st : Int × List UInt8) (most : Int) (L : List HItem) (i : Nat) (hi : L[i]? = some (EyeI b st)) (hm1 : -9223372036854775808 ≤ most) (hm2 : most ≤ 9223372036854775807) (hl : st.2.length ≤ 4294967296) (hs : Sat s w L) :
    Calls P n_digit_Eye_Num #[.pointer (some ⟨b, 0, none⟩), .int .i64 most] w (Ret s (fun _ : Unit => .int .i64 (eyeNum st most).1) (fun _ => L.set i (EyeI b (eyeNum st most).2)) (fun _ => True)) := by
  refine at0 i hi hs fun F hF h => ?_
  obtain ⟨v, h⟩ := EyeI_open h
  exact (eye_num s w b t_digit_Eye v st.2 st.1 most F hm1 hm2 hl h).mono fun _ _ ⟨x, he, h', _⟩ => ⟨(), he, EyeI_shut (v := x) h', trivial⟩
theorem eye_Raw (s w : World) (b : Nat) (st : Int × List UInt8) (m : Int) (L : List HItem) (i : Nat) (hi : L[i]? = some (EyeI b st)) (hl : st.2.length ≤ 4294967296) (hs : Sat s w L) :
    Calls P n_digit_Eye_Raw #[.pointer (some ⟨b, 0, none⟩), .int .i64 m] w (Ret s (fun v : Value => v) (fun v => OwnB v (eyeRaw st m).1 :: L.set i (EyeI b (eyeRaw st m).2)) (fun _ => True)) := by
  refine atN i hi hs fun F hF h => ?_
  obtain ⟨v, h⟩ := EyeI_open h
  exact (eye_raw s w b t_digit_Eye v st.2 st.1 m F hl h).mono fun _ _ ⟨x, he, h', _⟩ => ⟨x.2, he, (EyeI_shut (v := x.1) (F := OwnB x.2 (eyeRaw st m).1 :: F) (h'.perm ((List.Perm.swap _ _ _).trans ((List.Perm.swap _ _ _).cons _)))).perm (.swap _ _ _), trivial⟩
theorem eye_EndI (s w : World) (b : Nat) (st : Int × List UInt8) (L : List HItem) (i : Nat) (hi : L[i]? = some (EyeI b st)) (hs : Sat s w L) :
    Calls P n_digit_Eye_End #[.pointer (some ⟨b, 0, none⟩)] w (Ret s (fun _ : Unit => .int .i64 (eyeEnd st)) (fun _ => L) (fun _ => True)) := by
  refine atS i hi hs fun F hF h => ?_
  obtain ⟨v, h⟩ := EyeI_open h
  exact (eye_End s w b t_digit_Eye v st.2 st.1 F h).mono fun _ _ ⟨x, he, h', _⟩ => ⟨(), he, EyeI_shut (v := v) h', trivial⟩
theorem eye_FaultI (s w : World) (b : Nat) (st : Int × List UInt8) (L : List HItem) (i : Nat) (hi : L[i]? = some (EyeI b st)) (hs : Sat s w L) :
    Calls P n_digit_Eye_Fault #[.pointer (some ⟨b, 0, none⟩)] w (Ret s (fun _ : Unit => .int .i64 st.1) (fun _ => L) (fun _ => True)) := by
  refine atS i hi hs fun F hF h => ?_
  obtain ⟨v, h⟩ := EyeI_open h
  exact (eye_fault s w b t_digit_Eye v st.1 _ h).mono fun _ _ ⟨x, he, h', _⟩ => ⟨(), he, EyeI_shut (v := v) h', trivial⟩
theorem eye_LeftI (s w : World) (b : Nat) (st : Int × List UInt8) (L : List HItem) (i : Nat) (hi : L[i]? = some (EyeI b st)) (hs : Sat s w L) :
    Calls P n_digit_Eye_Left #[.pointer (some ⟨b, 0, none⟩)] w (Ret s (fun _ : Unit => .int .i64 (st.2.length : Int)) (fun _ => L) (fun _ => True)) := by
  refine atS i hi hs fun F hF h => ?_
  obtain ⟨v, h⟩ := EyeI_open h
  exact (eye_left s w b t_digit_Eye v st.2 st.1 _ h).mono fun _ _ ⟨x, he, h', _⟩ => ⟨(), he, EyeI_shut (v := v) h', trivial⟩
end Go.Proofs.K

/- Deltas as plain things: the longest piece, what is told and copied. -/
namespace Go.Sl

/-- how many bytes two texts begin with alike -/
def lcp : List UInt8 → List UInt8 → Nat
  | x :: l, y :: m => if x = y then lcp l m + 1 else 0
  | _, _ => 0
def longA (p : List UInt8) : List UInt8 → Nat → Nat → Nat → Nat × Nat
  | [], _, a, n => (a, n)
  | x :: r, i, a, n => if n < lcp (x :: r) p then longA p r (i + 1) i (lcp (x :: r) p) else longA p r (i + 1) a n
/-- where the longest beginning of p stands in base, how long it is -/
def longN (base p : List UInt8) : Nat × Nat := longA p base 0 0 0
theorem lcp_le : ∀ (l m : List UInt8), lcp l m ≤ l.length ∧ lcp l m ≤ m.length
  | [], m => by simp [lcp]
  | _ :: _, [] => by simp [lcp]
  | x :: l, y :: m => by
    have ⟨h1, h2⟩ := lcp_le l m
    rw [lcp]; split <;> simp <;> omega
theorem lcp_take : ∀ (l m : List UInt8) (n : Nat), n ≤ lcp l m ↔ l.take n = m.take n ∧ n ≤ l.length ∧ n ≤ m.length
  | l, m, 0 => by simp
  | [], m, n + 1 => by simp [lcp]
  | _ :: _, [], n + 1 => by simp [lcp]
  | x :: l, y :: m, n + 1 => by
    have h := lcp_take l m n
    rw [lcp]
    by_cases e : x = y
    · subst e
      rw [if_pos rfl]
      simp only [List.take_succ_cons, List.cons.injEq, true_and, List.length_cons, Nat.add_le_add_iff_right]
      exact h
    · rw [if_neg e]
      simp [e]
theorem longA_spec (p : List UInt8) : ∀ (l : List UInt8) (i a n : Nat),
    ((longA p l i a n) = (a, n) ∧ ∀ k < l.length, lcp (l.drop k) p ≤ n) ∨
    (n < (longA p l i a n).2 ∧ ∃ j < l.length, (longA p l i a n).1 = i + j ∧ lcp (l.drop j) p = (longA p l i a n).2 ∧ (∀ k < j, lcp (l.drop k) p < (longA p l i a n).2) ∧ ∀ k < l.length, lcp (l.drop k) p ≤ (longA p l i a n).2)
  | [], i, a, n => .inl ⟨rfl, by simp⟩
  | x :: r, i, a, n => by
    rw [longA]
    by_cases h : n < lcp (x :: r) p
    · rw [if_pos h]
      right
      rcases longA_spec p r (i + 1) i (lcp (x :: r) p) with ⟨e, h1⟩ | ⟨h1, j, hj, h2, h3, h4, h5⟩
      · rw [e]
        refine ⟨h, 0, by simp, rfl, rfl, by simp, fun k hk => ?_⟩
        cases k with
        | zero => exact Nat.le_refl _
        | succ k => exact h1 k (by simpa using hk)
      · refine ⟨by omega, j + 1, by simpa using hj, by rw [h2]; omega, h3, fun k hk => ?_, fun k hk => ?_⟩
        · cases k with
          | zero => exact h1
          | succ k => exact h4 k (by omega)
        · cases k with
          | zero => exact Nat.le_of_lt h1
          | succ k => exact h5 k (by simpa using hk)
    · rw [if_neg h]
      rcases longA_spec p r (i + 1) a n with ⟨e, h1⟩ | ⟨h1, j, hj, h2, h3, h4, h5⟩
      · refine .inl ⟨e, fun k hk => ?_⟩
        cases k with
        | zero => show lcp (x :: r) p ≤ n; omega
        | succ k => exact h1 k (by simpa using hk)
      · refine .inr ⟨h1, j + 1, by simpa using hj, by rw [h2]; omega, h3, fun k hk => ?_, fun k hk => ?_⟩
        · cases k with
          | zero => show lcp (x :: r) p < _; omega
          | succ k => exact h4 k (by omega)
        · cases k with
          | zero => show lcp (x :: r) p ≤ _; omega
          | succ k => exact h5 k (by simpa using hk)
/-- the longest piece, known by what it is -/
theorem longN_eq {base p : List UInt8} {a n : Nat} (h0 : 0 < n) (hm : n ≤ lcp (base.drop a) p) (hf : ∀ k < a, lcp (base.drop k) p < n) (hx : ∀ k, lcp (base.drop k) p ≤ n) : longN base p = (a, n) := by
  have ha : a < base.length := by
    have := (lcp_le (base.drop a) p).1
    rw [List.length_drop] at this; omega
  rcases longA_spec p base 0 0 0 with ⟨e, h1⟩ | ⟨h1, j, hj, h2, h3, h4, h5⟩
  · have := h1 a ha; omega
  · have hn : (longN base p).2 = n := by
      have e1 := h5 a ha
      have e2 := hx j
      rw [h3] at e2
      show (longA p base 0 0 0).2 = n
      omega
    have hn' : (longA p base 0 0 0).2 = n := hn
    have hj2 : j = a := by
      rcases Nat.lt_trichotomy j a with q | q | q
      · have := hf j q; rw [h3, hn'] at this; omega
      · exact q
      · have := h4 a q; rw [hn'] at this; omega
    refine Prod.ext ?_ hn
    show (longA p base 0 0 0).1 = a
    rw [h2, hj2]; omega
theorem longN_none {base p : List UInt8} (hx : ∀ k, lcp (base.drop k) p = 0) : longN base p = (0, 0) := by
  rcases longA_spec p base 0 0 0 with ⟨e, h1⟩ | ⟨h1, j, hj, h2, h3, h4, h5⟩
  · exact e
  · have := hx j; rw [h3] at this; omega
theorem longN_le (base p : List UInt8) : (longN base p).2 ≤ p.length ∧ (longN base p).1 + (longN base p).2 ≤ base.length := by
  rcases longA_spec p base 0 0 0 with ⟨e, h1⟩ | ⟨h1, j, hj, h2, h3, h4, h5⟩
  · have e' : longN base p = (0, 0) := e
    rw [e']; simp
  · have h6 := lcp_le (base.drop j) p
    rw [h3, List.length_drop] at h6
    show (longA p base 0 0 0).2 ≤ _ ∧ (longA p base 0 0 0).1 + (longA p base 0 0 0).2 ≤ _
    omega
theorem longN_take (base p : List UInt8) : (base.drop (longN base p).1).take (longN base p).2 = p.take (longN base p).2 := by
  rcases longA_spec p base 0 0 0 with ⟨e, h1⟩ | ⟨h1, j, hj, h2, h3, h4, h5⟩
  · have e' : longN base p = (0, 0) := e
    rw [e']; simp
  · have h6 := (lcp_take (base.drop j) p (longA p base 0 0 0).2).1 (by rw [h3]; exact Nat.le_refl _)
    show (base.drop (longA p base 0 0 0).1).take (longA p base 0 0 0).2 = _
    rw [h2, Nat.zero_add]; exact h6.1
/-- what was gathered, as it is told -/
def tellN (t : List UInt8) : List UInt8 := if t = [] then [] else numN (2 * t.length) ++ t
/-- bytes by others -/
def makeN (base : List UInt8) : Nat → List UInt8 → List UInt8 → List UInt8
  | 0, _, t => tellN t
  | _, [], t => tellN t
  | f + 1, x :: r, t => if (longN base (x :: r)).2 < 4 then makeN base f r (t ++ [x]) else
    tellN t ++ numN (2 * (longN base (x :: r)).2 + 1) ++ numN (longN base (x :: r)).1 ++ makeN base f ((x :: r).drop (longN base (x :: r)).2) []
def deltaN (base p : List UInt8) : List UInt8 := makeN base p.length p []
end Go.Sl

/- The contracts of package delta. -/
namespace Go.Proofs.K
open Go.Sl
attribute [local irreducible] Go.Sl.Own Go.Sl.Blk Go.Sl.Sep Go.Sl.Ex Go.Sl.Fact

theorem lcp_step {l m : List UInt8} {k : Nat} (h : k ≤ lcp l m) : k + 1 ≤ lcp l m ↔ (k < m.length ∧ k < l.length) ∧ l.getD k 0 = m.getD k 0 := by
  rw [lcp_take] at h ⊢
  obtain ⟨h1, h2, h3⟩ := h
  constructor
  · rintro ⟨q1, q2, q3⟩
    refine ⟨⟨by omega, by omega⟩, ?_⟩
    have := congrArg (fun x => x.getD k 0) q1
    simpa [List.getD_eq_getElem?_getD, List.getElem?_take] using this
  · rintro ⟨⟨q1, q2⟩, q3⟩
    refine ⟨?_, by omega, by omega⟩
    rw [List.take_add_one, List.take_add_one, h1]
    rw [List.getD_eq_getElem?_getD, List.getD_eq_getElem?_getD, List.getElem?_eq_getElem q1, List.getElem?_eq_getElem q2] at q3
    rw [List.getElem?_eq_getElem q1, List.getElem?_eq_getElem q2]
    simp only [Option.getD_some] at q3
    rw [q3]

theorem longA_at {p base : List UInt8} {i aa n : Nat} (hi : i < base.length) : longA p (base.drop i) i aa n = if n < lcp (base.drop i) p then longA p (base.drop (i + 1)) (i + 1) i (lcp (base.drop i) p) else longA p (base.drop (i + 1)) (i + 1) aa n := by
  rw [List.drop_eq_getElem_cons hi, longA]

theorem delta_longest (s w : World) (bw pv : Value) (base p : List UInt8) (F : List HItem) (hb : ViewsB F bw base) (hp : ViewsB F pv p) (hs : Sat s w F) :
    Calls P n_delta_longest #[bw, pv] w (Ret s (fun _ : Unit => .tuple #[.int .i64 ((longN base p).1 : Int), .int .i64 ((longN base p).2 : Int)]) (fun _ => F) (fun _ => True)) := by
  have hbl := ViewsB.len_le hb hs
  have hpl := ViewsB.len_le hp hs
  refine enter K.fn_delta_longest rfl K.nt_delta_longest rfl hs ?_
  clear hs w; intro a w h
  refine c_seq (c_region ?_)
  refine wv h (r_assign h rfl) rfl ?_
  clear h a w; intro a w h
  refine wv h (r_assign h rfl) rfl ?_
  clear h a w; intro a w h
  refine wnil (c_then ?_)
  refine c_seq (c_region ?_)
  refine wv h (r_assign h rfl) rfl ?_
  clear h a w; intro a w h
  refine wv h (r_assign h rfl) rfl ?_
  clear h a w; intro a w h
  refine wnil (c_then ?_)
  refine c_seq ?_
  refine c_seq (c_region ?_)
  refine wv h (r_move h rfl) rfl ?_
  clear h a w; intro a w h
  refine wv h (r_lenB h rfl K.u_S_uint8 (by assumption)) rfl ?_
  clear h a w; intro a w h
  refine wv h (r_move h rfl) rfl ?_
  clear h a w; intro a w h
  refine wnil (c_then ?_)
  refine c_block ?_
  refine c_loopX h (X := Nat × Nat × Nat) (fun x => [(0, bw), (1, pv), (6, .int .i64 (x.2.1 : Int)), (7, .int .i64 (x.2.2 : Int)), (11, .int .i64 (base.length : Int)), (12, .int .i64 (x.1 : Int))]) (fun _ => F)
    (fun x => x.1 ≤ base.length ∧ longA p (base.drop x.1) x.1 x.2.1 x.2.2 = longN base p) (fun x => base.length - x.1) (0, 0, 0) (h.keep [0, 1, 6, 7, 11, 12]) ⟨Nat.zero_le _, rfl⟩ ?_
  clear h a w; intro x a w hx h
  obtain ⟨i, aa, n⟩ := x
  obtain ⟨hx1, hx2⟩ := hx
  dsimp only at hx1 hx2 h
  as_aux_lemma =>
   refine c_seq (c_region ?_)
   refine wv h (r_bin h rfl rfl (B.lss_int)) rfl ?_
   clear h a w; intro a w h
   refine wnil (c_then ?_)
   refine c_seq ?_
   refine c_condD h rfl (fun ht1 => ?_) (fun ht1 => ?_)
   ·
    refine c_skip ?_
    refine c_then ?_
    refine c_seq ?_
    refine c_block ?_
    refine c_seq (c_region ?_)
    refine wv h (r_move h rfl) rfl ?_
    clear h a w; intro a w h
    refine wv h (r_assign h rfl) rfl ?_
    clear h a w; intro a w h
    refine wnil (c_then ?_)
    refine c_seq (c_region ?_)
    refine wv h (r_assign h rfl) rfl ?_
    clear h a w; intro a w h
    refine wnil (c_then ?_)
    refine c_seq ?_
    refine c_block ?_
    refine c_loopX h (X := Nat) (fun k => [(0, bw), (1, pv), (6, .int .i64 (aa : Int)), (7, .int .i64 (n : Int)), (8, .int .i64 (i : Int)), (9, .int .i64 (k : Int)), (11, .int .i64 (base.length : Int)), (12, .int .i64 (i : Int))]) (fun _ => F)
      (fun k => k ≤ lcp (base.drop i) p) (fun k => p.length - k) 0 (h.keep [0, 1, 6, 7, 8, 9, 11, 12]) (Nat.zero_le _) ?_
    clear h a w; intro k a w hk h
    have hle := lcp_le (base.drop i) p
    rw [List.length_drop] at hle
    have hst := lcp_step hk
    rw [List.length_drop, List.getD_eq_getElem?_getD, List.getElem?_drop, ← List.getD_eq_getElem?_getD] at hst
    as_aux_lemma =>
     refine c_seq ?_
     refine c_seq (c_draw K.mixed (by kernel_rfl) h ?_)
     clear h a w; intro a hE
     refine qv hE (fun w hw => r_move ⟨hE, hw⟩ rfl) rfl ?_
     clear hE a; intro a hE
     refine qv hE (fun w hw => r_move ⟨hE, hw⟩ rfl) rfl ?_
     clear hE a; intro a hE
     refine qv hE (fun w hw => r_lenB ⟨hE, hw⟩ rfl K.u_S_uint8 (by assumption)) rfl ?_
     clear hE a; intro a hE
     refine qv hE (fun w hw => r_bin ⟨hE, hw⟩ rfl rfl (B.lss_int)) rfl ?_
     clear hE a; intro a hE
     refine qv hE (fun w hw => r_move ⟨hE, hw⟩ rfl) rfl ?_
     clear hE a; intro a hE
     refine qvG hE (by exact .t rfl) (fun hg w hw => by (have hg2 := hg; (simp only [Bool.and_eq_true, Bool.or_eq_true, Bool.not_eq_true', decide_eq_true_eq, decide_eq_false_iff_not] at hg2)); exact r_move ⟨hE, hw⟩ rfl) rfl ?_
     clear hE a; intro a hE
     refine qvG hE (by exact .t rfl) (fun hg w hw => by (simp only [↓gval_on hg, ↓gval_and hg] at hE); (have hg2 := hg; (simp only [Bool.and_eq_true, Bool.or_eq_true, Bool.not_eq_true', decide_eq_true_eq, decide_eq_false_iff_not] at hg2)); exact r_move ⟨hE, hw⟩ rfl) rfl ?_
     clear hE a; intro a hE
     refine qvG hE (by exact .t rfl) (fun hg w hw => by (simp only [↓gval_on hg, ↓gval_and hg] at hE); (have hg2 := hg; (simp only [Bool.and_eq_true, Bool.or_eq_true, Bool.not_eq_true', decide_eq_true_eq, decide_eq_false_iff_not] at hg2)); exact r_bin ⟨hE, hw⟩ rfl rfl (B.add_i64 (by omega) (by omega))) rfl ?_
     clear hE a; intro a hE
     rw [show (i : Int) + (k : Int) = ((i + k : Nat) : Int) by omega] at hE
     refine qvG hE (by exact .t rfl) (fun hg w hw => by (simp only [↓gval_on hg, ↓gval_and hg] at hE); (have hg2 := hg; (simp only [Bool.and_eq_true, Bool.or_eq_true, Bool.not_eq_true', decide_eq_true_eq, decide_eq_false_iff_not] at hg2)); exact r_move ⟨hE, hw⟩ rfl) rfl ?_
     clear hE a; intro a hE
     refine qvG hE (by exact .t rfl) (fun hg w hw => by (simp only [↓gval_on hg, ↓gval_and hg] at hE); (have hg2 := hg; (simp only [Bool.and_eq_true, Bool.or_eq_true, Bool.not_eq_true', decide_eq_true_eq, decide_eq_false_iff_not] at hg2)); exact r_lenB ⟨hE, hw⟩ rfl K.u_S_uint8 (by assumption)) rfl ?_
     clear hE a; intro a hE
     refine qvG hE (by exact .t rfl) (fun hg w hw => by (simp only [↓gval_on hg, ↓gval_and hg] at hE); (have hg2 := hg; (simp only [Bool.and_eq_true, Bool.or_eq_true, Bool.not_eq_true', decide_eq_true_eq, decide_eq_false_iff_not] at hg2)); exact r_bin ⟨hE, hw⟩ rfl rfl (B.lss_int)) rfl ?_
     clear hE a; intro a hE
     refine qv hE (fun w hw => r_pickA ⟨hE, hw⟩ rfl rfl rfl) rfl ?_
     clear hE a; intro a hE
     refine qv hE (fun w hw => r_move ⟨hE, hw⟩ rfl) rfl ?_
     clear hE a; intro a hE
     refine qvG hE (by exact .t rfl) (fun hg w hw => by (have hg2 := hg; (simp only [Bool.and_eq_true, Bool.or_eq_true, Bool.not_eq_true', decide_eq_true_eq, decide_eq_false_iff_not] at hg2)); exact r_move ⟨hE, hw⟩ rfl) rfl ?_
     clear hE a; intro a hE
     refine qvG hE (by exact .t rfl) (fun hg w hw => by (simp only [↓gval_on hg, ↓gval_and hg] at hE); (have hg2 := hg; (simp only [Bool.and_eq_true, Bool.or_eq_true, Bool.not_eq_true', decide_eq_true_eq, decide_eq_false_iff_not] at hg2)); exact r_move ⟨hE, hw⟩ rfl) rfl ?_
     clear hE a; intro a hE
     refine qvG hE (by exact .t rfl) (fun hg w hw => by (simp only [↓gval_on hg, ↓gval_and hg] at hE); (have hg2 := hg; (simp only [Bool.and_eq_true, Bool.or_eq_true, Bool.not_eq_true', decide_eq_true_eq, decide_eq_false_iff_not] at hg2)); exact r_move ⟨hE, hw⟩ rfl) rfl ?_
     clear hE a; intro a hE
     refine qvG hE (by exact .t rfl) (fun hg w hw => by (simp only [↓gval_on hg, ↓gval_and hg] at hE); (have hg2 := hg; (simp only [Bool.and_eq_true, Bool.or_eq_true, Bool.not_eq_true', decide_eq_true_eq, decide_eq_false_iff_not] at hg2)); exact r_bin ⟨hE, hw⟩ rfl rfl (B.add_i64 (by omega) (by omega))) rfl ?_
     clear hE a; intro a hE
     rw [show (i : Int) + (k : Int) = ((i + k : Nat) : Int) by omega] at hE
     refine qvG hE (by exact .t rfl) (fun hg w hw => by (simp only [↓gval_on hg, ↓gval_and hg] at hE); (have hg2 := hg; (simp only [Bool.and_eq_true, Bool.or_eq_true, Bool.not_eq_true', decide_eq_true_eq, decide_eq_false_iff_not] at hg2)); exact r_elP ⟨hE, hw⟩ rfl rfl K.u_S_uint8 K.sz_uint8 (by assumption) (by omega) (by omega)) rfl ?_
     clear hE a; intro a hE
     refine qvG hE (by exact .t rfl) (fun hg w hw => by (simp only [↓gval_on hg, ↓gval_and hg] at hE); (have hg2 := hg; (simp only [Bool.and_eq_true, Bool.or_eq_true, Bool.not_eq_true', decide_eq_true_eq, decide_eq_false_iff_not] at hg2)); exact r_elb ⟨hE, hw⟩ rfl K.u_uint8 rfl (by assumption) (by omega)) rfl ?_
     clear hE a; intro a hE
     refine qvG hE (by exact .t rfl) (fun hg w hw => by (simp only [↓gval_on hg, ↓gval_and hg] at hE); (have hg2 := hg; (simp only [Bool.and_eq_true, Bool.or_eq_true, Bool.not_eq_true', decide_eq_true_eq, decide_eq_false_iff_not] at hg2)); exact r_move ⟨hE, hw⟩ rfl) rfl ?_
     clear hE a; intro a hE
     refine qvG hE (by exact .t rfl) (fun hg w hw => by (simp only [↓gval_on hg, ↓gval_and hg] at hE); (have hg2 := hg; (simp only [Bool.and_eq_true, Bool.or_eq_true, Bool.not_eq_true', decide_eq_true_eq, decide_eq_false_iff_not] at hg2)); exact r_move ⟨hE, hw⟩ rfl) rfl ?_
     clear hE a; intro a hE
     refine qvG hE (by exact .t rfl) (fun hg w hw => by (simp only [↓gval_on hg, ↓gval_and hg] at hE); (have hg2 := hg; (simp only [Bool.and_eq_true, Bool.or_eq_true, Bool.not_eq_true', decide_eq_true_eq, decide_eq_false_iff_not] at hg2)); exact r_elP ⟨hE, hw⟩ rfl rfl K.u_S_uint8 K.sz_uint8 (by assumption) (by omega) (by omega)) rfl ?_
     clear hE a; intro a hE
     refine qvG hE (by exact .t rfl) (fun hg w hw => by (simp only [↓gval_on hg, ↓gval_and hg] at hE); (have hg2 := hg; (simp only [Bool.and_eq_true, Bool.or_eq_true, Bool.not_eq_true', decide_eq_true_eq, decide_eq_false_iff_not] at hg2)); exact r_elb ⟨hE, hw⟩ rfl K.u_uint8 rfl (by assumption) (by omega)) rfl ?_
     clear hE a; intro a hE
     refine qvG hE (by exact .t rfl) (fun hg w hw => by (simp only [↓gval_on hg, ↓gval_and hg] at hE); (have hg2 := hg; (simp only [Bool.and_eq_true, Bool.or_eq_true, Bool.not_eq_true', decide_eq_true_eq, decide_eq_false_iff_not] at hg2)); exact r_bin ⟨hE, hw⟩ rfl rfl (B.eql_u8)) rfl ?_
     clear hE a; intro a hE
     refine qv hE (fun w hw => r_pickA ⟨hE, hw⟩ rfl rfl rfl) rfl ?_
     clear hE a; intro a hE
     refine qnil hE ?_
     clear hE a; intro a w h
     refine c_then ?_
     refine c_condP h rfl (by (simp only [Bool.and_eq_true, Bool.or_eq_true, Bool.not_eq_true', decide_eq_true_eq, decide_eq_false_iff_not, ne_eq, Bool.not_eq_eq_eq_not, Bool.not_true, beq_iff_eq, bne_iff_ne]; exact Iff.rfl)) (fun ht2 => ?_) (fun ht2 => ?_)
     ·
      refine c_skip ?_
      refine c_then ?_
      refine c_block ?_
      refine c_region ?_
      refine wv h (r_move h rfl) rfl ?_
      clear h a w; intro a w h
      refine wv h (r_bin h rfl rfl (B.add_i64 (by omega) (by omega))) rfl ?_
      clear h a w; intro a w h
      refine wv h (r_assign h rfl) rfl ?_
      clear h a w; intro a w h
      refine wnil ?_
      refine b_normal ?_
      exact ⟨k + 1, h.keep [0, 1, 6, 7, 8, 9, 11, 12], hst.2 ⟨⟨by omega, by omega⟩, ht2.2⟩, by show p.length - (k + 1) < p.length - k; omega⟩
     ·
      have hkk : lcp (base.drop i) p = k := by
        refine Nat.le_antisymm (Nat.not_lt.1 fun q => ?_) hk
        have q2 := hst.1 q
        exact ht2 ⟨⟨by omega, by omega⟩, q2.2⟩
      have hil : i < base.length := by omega
      rw [longA_at hil, hkk] at hx2
      refine c_exit ?_
      refine e_then ?_
      refine e_then ?_
      refine e_here ?_
      refine c_then ?_
      refine c_seq (c_region ?_)
      refine wv h (r_move h rfl) rfl ?_
      clear h a w; intro a w h
      refine wv h (r_move h rfl) rfl ?_
      clear h a w; intro a w h
      refine wv h (r_bin h rfl rfl (B.gtr_int)) rfl ?_
      clear h a w; intro a w h
      refine wnil (c_then ?_)
      refine c_condD h rfl (fun ht3 => ?_) (fun ht3 => ?_)
      ·
       as_aux_lemma =>
        refine c_region ?_
        refine wv h (r_move h rfl) rfl ?_
        clear h a w; intro a w h
        refine wv h (r_move h rfl) rfl ?_
        clear h a w; intro a w h
        refine wv h (r_assign h rfl) rfl ?_
        clear h a w; intro a w h
        refine wv h (r_assign h rfl) rfl ?_
        clear h a w; intro a w h
        refine wnil ?_
        refine b_normal ?_
        refine c_then ?_
        refine c_region ?_
        refine wv h (r_bin h rfl rfl (B.add_i64 (by omega) (by omega))) rfl ?_
        clear h a w; intro a w h
        refine wv h (r_move h rfl) rfl ?_
        clear h a w; intro a w h
        refine wnil ?_
        rw [if_pos (by omega)] at hx2
        exact ⟨(i + 1, i, k), h.keep [0, 1, 6, 7, 11, 12], ⟨hil, hx2⟩, by show base.length - (i + 1) < base.length - i; omega⟩
      ·
       refine c_skip ?_
       refine b_normal ?_
       refine c_then ?_
       refine c_region ?_
       refine wv h (r_bin h rfl rfl (B.add_i64 (by omega) (by omega))) rfl ?_
       clear h a w; intro a w h
       refine wv h (r_move h rfl) rfl ?_
       clear h a w; intro a w h
       refine wnil ?_
       rw [if_neg (by omega)] at hx2
       exact ⟨(i + 1, aa, n), h.keep [0, 1, 6, 7, 11, 12], ⟨hil, hx2⟩, by show base.length - (i + 1) < base.length - i; omega⟩
   ·
    obtain rfl : i = base.length := by omega
    rw [List.drop_length] at hx2
    have e1 : aa = (longN base p).1 := by rw [← hx2]; rfl
    have e2 : n = (longN base p).2 := by rw [← hx2]; rfl
    refine c_exit ?_
    refine e_then ?_
    refine e_then ?_
    refine e_here ?_
    refine c_then ?_
    refine c_seq (c_region ?_)
    refine wv h (r_move h rfl) rfl ?_
    clear h a w; intro a w h
    refine wv h (r_move h rfl) rfl ?_
    clear h a w; intro a w h
    refine wv h (r_assign h rfl) rfl ?_
    clear h a w; intro a w h
    refine wv h (r_assign h rfl) rfl ?_
    clear h a w; intro a w h
    refine wnil (c_then ?_)
    refine c_ret ?_
    exact ret2 h rfl rfl rfl ⟨(), by rw [e1, e2], h.2, trivial⟩
end Go.Proofs.K

/- The contract of the maker's tell. -/
namespace Go.Proofs.K
open Go.Sl
attribute [local irreducible] Go.Sl.Own Go.Sl.Blk Go.Sl.Sep Go.Sl.Ex Go.Sl.Fact

theorem tellN_nil : tellN [] = [] := rfl
theorem tellN_pos {t : List UInt8} (h : 0 < t.length) : tellN t = numN (2 * t.length) ++ t := by
  rw [tellN, if_neg]; rintro rfl; simp at h

def MkF (b : Nat) (vt : Value) : HItem := Ex fun v0 : Value => Blk b (.cells #[v0, vt] t_delta_maker)
theorem MkF_of {s w : World} {b : Nat} {v0 vt : Value} {R : List HItem} (h : Sat s w (Blk b (.cells #[v0, vt] t_delta_maker) :: R)) : Sat s w [MkF b vt] := by
  have h1 := (h.perm (List.perm_append_comm (l₁ := [_]) (l₂ := R))).drop R.length
  rw [List.drop_left] at h1
  exact Sat.ex v0 h1
theorem MkF_open {s w : World} {b : Nat} {vt : Value} (h : Sat s w [MkF b vt]) : ∃ v0, Sat s w [Blk b (.cells #[v0, vt] t_delta_maker)] := h.unex

theorem tell_end {s w : World} {N A B C : HItem} {F : List HItem} (h : Sat s w (N :: A :: B :: C :: F)) : Sat s w (A :: B :: N :: F) :=
  ((h.perm (List.perm_middle (l₁ := [N, A, B]))).drop 1).perm (List.perm_middle (l₁ := [A, B])).symm

theorem delta_tell (s w : World) (b : Nat) (vp vt : Value) (l t : List UInt8) (F : List HItem) (hl : l.length + t.length + 40 ≤ 4294967296) (hs : Sat s w (Blk b (.cells #[vp, vt] t_delta_maker) :: OwnB vp l :: OwnB vt t :: F)) :
    Calls P n_delta_maker_tell #[.pointer (some ⟨b, 0, none⟩)] w (Ret s (fun _ : Value => .tuple #[]) (fun v => Blk b (.cells #[v, .slice none 0 0] t_delta_maker) :: OwnB v (l ++ tellN t) :: OwnB (.slice none 0 0) [] :: F) (fun _ => True)) := by
  have hnl := numN_len9 (2 * t.length) (by omega)
  refine enter K.fn_delta_maker_tell rfl K.nt_delta_maker_tell rfl hs ?_
  clear hs w; intro a w h
  refine c_seq ?_
  refine c_seq (c_region ?_)
  refine wv h (r_move h rfl) rfl ?_
  clear h a w; intro a w h
  refine wv h (r_nilCheck h rfl) rfl ?_
  clear h a w; intro a w h
  refine wv h (r_fieldAddr h 1 rfl K.u_delta_maker rfl K.sz_S_uint8 rfl rfl) rfl ?_
  clear h a w; intro a w h
  refine wv h (r_ldN h rfl K.u_S_uint8 rfl 0 rfl rfl) rfl ?_
  clear h a w; intro a w h
  refine wv h (r_lenB h rfl K.u_S_uint8 (by exact ViewsB.own 2 rfl)) rfl ?_
  clear h a w; intro a w h
  refine wv h (r_bin h rfl rfl (B.gtr_int)) rfl ?_
  clear h a w; intro a w h
  refine wnil (c_then ?_)
  refine c_condD h rfl (fun ht1 => ?_) (fun ht1 => ?_)
  ·
   have ht0 := tellN_pos (t := t) (by omega)
   as_aux_lemma =>
    refine c_drawn 15 K.mixed rfl h ?_
    clear h a w; intro a w h
    have hD : Paid s w [] := Paid.nil
    refine d_take0 (listed' := #[true, false, false, false, false, false, false, false, false, false, false, false, false, false, false]) h hD 0 (by as_aux_lemma => kernel_rfl) rfl (by as_aux_lemma => kernel_rfl) (by as_aux_lemma => kernel_rfl) (by as_aux_lemma => kernel_rfl) (fun _ _ _ _ hh => hh) (fun w h => by exact r_move h rfl) rfl ?_
    clear hD h a w; intro a w h hD
    refine d_take0 (listed' := #[true, true, false, false, false, false, false, false, false, false, false, false, false, false, false]) h hD 1 (by as_aux_lemma => kernel_rfl) rfl (by as_aux_lemma => kernel_rfl) (by as_aux_lemma => kernel_rfl) (by as_aux_lemma => kernel_rfl) (fun _ _ _ _ hh => hh) (fun w h => by exact r_nilCheck h rfl) rfl ?_
    clear hD h a w; intro a w h hD
    refine d_take0 (listed' := #[true, true, true, false, false, false, false, false, false, false, false, false, false, false, false]) h hD 2 (by as_aux_lemma => kernel_rfl) rfl (by as_aux_lemma => kernel_rfl) (by as_aux_lemma => kernel_rfl) (by as_aux_lemma => kernel_rfl) (fun _ _ _ _ hh => hh) (fun w h => by exact r_fieldAddr0 h rfl K.u_delta_maker rfl K.sz_digit_Pen rfl rfl) rfl ?_
    clear hD h a w; intro a w h hD
    refine d_take0 (listed' := #[true, true, true, true, false, false, false, false, false, false, false, false, false, false, false]) h hD 3 (by as_aux_lemma => kernel_rfl) rfl (by as_aux_lemma => kernel_rfl) (by as_aux_lemma => kernel_rfl) (by as_aux_lemma => kernel_rfl) (fun _ _ _ _ hh => hh) (fun w h => by exact r_move h rfl) rfl ?_
    clear hD h a w; intro a w h hD
    refine d_take0 (listed' := #[true, true, true, true, true, false, false, false, false, false, false, false, false, false, false]) h hD 4 (by as_aux_lemma => kernel_rfl) rfl (by as_aux_lemma => kernel_rfl) (by as_aux_lemma => kernel_rfl) (by as_aux_lemma => kernel_rfl) (fun _ _ _ _ hh => hh) (fun w h => by exact r_nilCheck h rfl) rfl ?_
    clear hD h a w; intro a w h hD
    refine d_take0 (listed' := #[true, true, true, true, true, true, false, false, false, false, false, false, false, false, false]) h hD 5 (by as_aux_lemma => kernel_rfl) rfl (by as_aux_lemma => kernel_rfl) (by as_aux_lemma => kernel_rfl) (by as_aux_lemma => kernel_rfl) (fun _ _ _ _ hh => hh) (fun w h => by exact r_fieldAddr h 1 rfl K.u_delta_maker rfl K.sz_S_uint8 rfl rfl) rfl ?_
    clear hD h a w; intro a w h hD
    refine d_take (listed' := #[true, true, true, true, true, true, true, false, false, false, false, false, false, false, false]) h hD 6 ([MkF b vt]) (by as_aux_lemma => kernel_rfl) rfl (by as_aux_lemma => kernel_rfl) (by as_aux_lemma => kernel_rfl) (by as_aux_lemma => kernel_rfl) (fun _ _ _ _ hh => hh) (by exact MkF_of h.2) (fun w hw => by exact match MkF_open hw /- Views -/ with | ⟨v0, hw⟩ => r_ldN ⟨h.1, hw⟩ rfl K.u_S_uint8 rfl 0 rfl rfl) rfl ?_
    clear hD h a w; intro a w h hD
    refine d_take (listed' := #[true, true, true, true, true, true, true, true, false, false, false, false, false, false, false]) h hD 7 (OwnB vt t :: F) (by as_aux_lemma => kernel_rfl) rfl (by as_aux_lemma => kernel_rfl) (by as_aux_lemma => kernel_rfl) (by as_aux_lemma => kernel_rfl) (fun _ _ _ _ hh => hh) (by exact h.2.drop 2) (fun w hw => by exact r_lenB ⟨h.1, hw⟩ rfl K.u_S_uint8 (by exact ViewsB.own 0 rfl)) rfl ?_
    clear hD h a w; intro a w h hD
    refine d_take0 (listed' := #[true, true, true, true, true, true, true, true, true, false, false, false, false, false, false]) h hD 8 (by as_aux_lemma => kernel_rfl) rfl (by as_aux_lemma => kernel_rfl) (by as_aux_lemma => kernel_rfl) (by as_aux_lemma => kernel_rfl) (fun _ _ _ _ hh => hh) (fun w h => by exact r_bin h rfl rfl (B.mul_i64 (by omega) (by omega))) rfl ?_
    clear hD h a w; intro a w h hD
    rw [show (2 : Int) * (t.length : Int) = ((2 * t.length : Nat) : Int) by omega] at h
    refine d_take0 (listed' := #[true, true, true, true, true, true, true, true, true, false, true, false, false, false, false]) h hD 10 (by as_aux_lemma => kernel_rfl) rfl (by as_aux_lemma => kernel_rfl) (by as_aux_lemma => kernel_rfl) (by as_aux_lemma => kernel_rfl) (fun _ _ _ _ hh => hh) (fun w h => by exact r_move h rfl) rfl ?_
    clear hD h a w; intro a w h hD
    refine d_take0 (listed' := #[true, true, true, true, true, true, true, true, true, false, true, true, false, false, false]) h hD 11 (by as_aux_lemma => kernel_rfl) rfl (by as_aux_lemma => kernel_rfl) (by as_aux_lemma => kernel_rfl) (by as_aux_lemma => kernel_rfl) (fun _ _ _ _ hh => hh) (fun w h => by exact r_nilCheck h rfl) rfl ?_
    clear hD h a w; intro a w h hD
    refine d_take0 (listed' := #[true, true, true, true, true, true, true, true, true, false, true, true, true, false, false]) h hD 12 (by as_aux_lemma => kernel_rfl) rfl (by as_aux_lemma => kernel_rfl) (by as_aux_lemma => kernel_rfl) (by as_aux_lemma => kernel_rfl) (fun _ _ _ _ hh => hh) (fun w h => by exact r_fieldAddr h 1 rfl K.u_delta_maker rfl K.sz_S_uint8 rfl rfl) rfl ?_
    clear hD h a w; intro a w h hD
    refine d_take (listed' := #[true, true, true, true, true, true, true, true, true, false, true, true, true, true, false]) h hD 13 ([MkF b vt]) (by as_aux_lemma => kernel_rfl) rfl (by as_aux_lemma => kernel_rfl) (by as_aux_lemma => kernel_rfl) (by as_aux_lemma => kernel_rfl) (fun _ _ _ _ hh => hh) (by exact MkF_of h.2) (fun w hw => by exact match MkF_open hw /- Views -/ with | ⟨v0, hw⟩ => r_ldN ⟨h.1, hw⟩ rfl K.u_S_uint8 rfl 0 rfl rfl) rfl ?_
    clear hD h a w; intro a w h hD
    refine d_only (listed' := #[true, true, true, true, true, true, true, true, true, true, true, true, true, true, false]) 9 [true, true, true] (by as_aux_lemma => kernel_rfl) rfl rfl (by as_aux_lemma => kernel_rfl) (by as_aux_lemma => kernel_rfl) ?_
    refine op_call h rfl K.go_digit_Pen_Num (pen_num s _ b 0 _ _ vp l (2 * t.length) _ (by omega) rfl (by omega) h.2) rfl ?_
    clear hD h a w; intro v17 a w hx h
    (simp only [List.set_cons_zero, List.set_cons_succ] at h)
    rw [show (#[vp, vt] : Array Value).setIfInBounds 0 v17 = #[v17, vt] from rfl] at h
    refine d_pay (Paid.cons (by exact MkF_of h.2) (Paid.cons (by exact h.2.drop 2) (Paid.cons (by exact MkF_of h.2) (Paid.nil)))) (fun hD => ?_)
    refine d_only (listed' := #[true, true, true, true, true, true, true, true, true, true, true, true, true, true, true]) 14 [false, true, true] (by as_aux_lemma => kernel_rfl) rfl rfl (by as_aux_lemma => kernel_rfl) (by as_aux_lemma => kernel_rfl) ?_
    refine op_call h rfl K.go_digit_Pen_Raw (pen_raw s _ b 0 _ _ _ vt _ t _ rfl (by simp only [List.length_append]; omega) (ViewsB.own 0 rfl) h.2) rfl ?_
    clear hD h a w; intro v22 a w hx h
    rw [show (#[v17, vt] : Array Value).setIfInBounds 0 v22 = #[v22, vt] from rfl] at h
    refine d_pay (Paid.cons (by exact h.2.drop 2) (Paid.cons (by exact MkF_of h.2) (Paid.nil))) (fun hD => ?_)
    refine d_done (by kernel_rfl) ?_
    clear hD
    refine c_then ?_
    refine c_region ?_
    refine wv h (r_move h rfl) rfl ?_
    clear h a w; intro a w h
    refine wv h (r_nilCheck h rfl) rfl ?_
    clear h a w; intro a w h
    refine wv h (r_fieldAddr h 1 rfl K.u_delta_maker rfl K.sz_S_uint8 rfl rfl) rfl ?_
    clear h a w; intro a w h
    refine wl rfl (op_storeN h rfl rfl K.sz_S_uint8 (by rfl) 0 rfl rfl ?_)
    clear h a w; intro a w h
    (simp only [List.set_cons_zero, List.set_cons_succ] at h)
    refine wnil ?_
    rw [ht0, ← List.append_assoc]
    exact end0 h rfl ⟨v22, rfl, tell_end h.addNilb.2, trivial⟩
  ·
   obtain rfl : t = [] := List.eq_nil_of_length_eq_zero (by omega)
   refine c_skip ?_
   refine c_then ?_
   refine c_region ?_
   refine wv h (r_move h rfl) rfl ?_
   clear h a w; intro a w h
   refine wv h (r_nilCheck h rfl) rfl ?_
   clear h a w; intro a w h
   refine wv h (r_fieldAddr h 1 rfl K.u_delta_maker rfl K.sz_S_uint8 rfl rfl) rfl ?_
   clear h a w; intro a w h
   refine wl rfl (op_storeN h rfl rfl K.sz_S_uint8 (by rfl) 0 rfl rfl ?_)
   clear h a w; intro a w h
   (simp only [List.set_cons_zero, List.set_cons_succ] at h)
   refine wnil ?_
   rw [tellN_nil, List.append_nil]
   exact end0 h rfl ⟨vp, rfl, tell_end h.addNilb.2, trivial⟩
end Go.Proofs.K

/- The contract of Make. -/
namespace Go.Proofs.K
open Go.Sl
attribute [local irreducible] Go.Sl.Own Go.Sl.Blk Go.Sl.Sep Go.Sl.Ex Go.Sl.Fact

theorem makeN_fuel (base : List UInt8) : ∀ (f g : Nat) (q t : List UInt8), q.length ≤ f → q.length ≤ g → makeN base f q t = makeN base g q t
  | 0, 0, [], t, _, _ => rfl
  | 0, _ + 1, [], t, _, _ => rfl
  | _ + 1, 0, [], t, _, _ => rfl
  | _ + 1, _ + 1, [], t, _, _ => rfl
  | 0, _, _ :: _, _, h, _ => by simp at h
  | _ + 1, 0, _ :: _, _, _, h => by simp at h
  | f + 1, g + 1, x :: r, t, h, h' => by
    simp only [List.length_cons] at h h'
    rw [makeN, makeN]
    by_cases q : (longN base (x :: r)).2 < 4
    · rw [if_pos q, if_pos q, makeN_fuel base f g r (t ++ [x]) (by omega) (by omega)]
    · have e : ((x :: r).drop (longN base (x :: r)).2).length ≤ r.length := by simp only [List.length_drop, List.length_cons]; omega
      rw [if_neg q, if_neg q, makeN_fuel base f g _ [] (by omega) (by omega)]
/-- what is made of what is left -/
def makeA (base q t : List UInt8) : List UInt8 := makeN base q.length q t
theorem makeA_nil (base t : List UInt8) : makeA base [] t = tellN t := rfl
theorem makeA_one {base q t : List UInt8} (hq : 0 < q.length) (h : (longN base q).2 < 4) : makeA base q t = makeA base (q.drop 1) (t ++ [q.getD 0 0]) := by
  cases q with
  | nil => simp at hq
  | cons x r => show makeN base (r.length + 1) (x :: r) t = makeN base r.length r (t ++ [x]); rw [makeN, if_pos h]
theorem makeA_long {base q t : List UInt8} (h : ¬ (longN base q).2 < 4) : makeA base q t = tellN t ++ numN (2 * (longN base q).2 + 1) ++ numN (longN base q).1 ++ makeA base (q.drop (longN base q).2) [] := by
  cases q with
  | nil => have := (longN_le base []).1; simp at this; omega
  | cons x r =>
    show makeN base (r.length + 1) (x :: r) t = _
    rw [makeN, if_neg h]
    congr 1
    exact makeN_fuel base _ _ _ _ (by simp only [List.length_drop, List.length_cons]; omega) (Nat.le_refl _)
theorem tellN_le {t : List UInt8} (h : t.length ≤ 4294967296) : (tellN t).length ≤ t.length + 10 := by
  have := numN_len9 (2 * t.length) (by omega)
  unfold tellN; split <;> simp <;> omega
theorem mk_open {n : Nat} {s w : World} {a : Act} {E : List (Nat × Value)} {b : Nat} {F : List HItem} (h : St n s a w E (Blk b (.cells #[.slice none 0 0, .slice none 0 0] t_delta_maker) :: F)) :
    St n s a w E (Blk b (.cells #[.slice none 0 0, .slice none 0 0] t_delta_maker) :: OwnB (.slice none 0 0) [] :: OwnB (.slice none 0 0) [] :: F) :=
  ⟨h.1, h.addNilb.addNilb.2.perm (List.perm_middle (l₁ := [OwnB (.slice none 0 0) [], OwnB (.slice none 0 0) []]))⟩

theorem delta_Make (s w : World) (bw pv : Value) (base p : List UInt8) (F : List HItem) (hb : ViewsB F bw base) (hp : ViewsB F pv p) (hl : p.length ≤ 1000000) (hs : Sat s w F) :
    Calls P n_delta_Make #[bw, pv] w (Ret s (fun v : Value => v) (fun v => OwnB v (deltaN base p) :: F) (fun _ => True)) := by
  have hbl := ViewsB.len_le hb hs
  refine enter K.fn_delta_Make rfl K.nt_delta_Make rfl hs ?_
  clear hs w; intro a w h
  refine c_seq (c_region ?_)
  refine wv h (r_assign h rfl) rfl ?_
  clear h a w; intro a w h
  refine wnil (c_then ?_)
  refine c_seq (c_region ?_)
  refine wv h (r_build h K.u_delta_maker K.z_delta_maker K.pl_delta_maker rfl rfl) rfl ?_
  clear h a w; intro a w h
  refine wl rfl (op_box h rfl rfl ?_)
  clear h a w; intro b a w h
  try simp only [Value.cells] at h
  replace h := mk_open h
  refine wv h (r_assign h rfl) rfl ?_
  clear h a w; intro a w h
  refine wnil (c_then ?_)
  refine c_seq ?_
  refine c_block ?_
  refine c_loopX h (X := Value × Value × Value × List UInt8 × List UInt8 × List UInt8) (fun x => [(0, bw), (1, x.2.2.1), (5, .pointer (some ⟨b, 0, none⟩))]) (fun x => Blk b (.cells #[x.1, x.2.1] t_delta_maker) :: OwnB x.1 x.2.2.2.1 :: OwnB x.2.1 x.2.2.2.2.1 :: F)
    (fun x => ViewsB F x.2.2.1 x.2.2.2.2.2 ∧ x.2.2.2.1 ++ makeA base x.2.2.2.2.2 x.2.2.2.2.1 = deltaN base p ∧ x.2.2.2.1.length + x.2.2.2.2.1.length + 31 * x.2.2.2.2.2.length ≤ 31 * p.length) (fun x => x.2.2.2.2.2.length) (.slice none 0 0, .slice none 0 0, pv, [], [], p) (h.keep [0, 1, 5]) ⟨hp, rfl, by simp⟩ ?_
  clear h a w; intro x a w hx h
  obtain ⟨vp, vt, qv, l, t, q⟩ := x
  obtain ⟨hq, hx2, hx3⟩ := hx
  dsimp only at hq hx2 hx3 h
  have hn := longN_le base q
  have hqc := ((hq.cons (OwnB vt t)).cons (OwnB vp l)).cons (Blk b (.cells #[vp, vt] t_delta_maker))
  have hbc := ((hb.cons (OwnB vt t)).cons (OwnB vp l)).cons (Blk b (.cells #[vp, vt] t_delta_maker))
  as_aux_lemma =>
   refine c_seq ?_
   refine c_seq (c_region ?_)
   refine wv h (r_move h rfl) rfl ?_
   clear h a w; intro a w h
   refine wv h (r_lenB h rfl K.u_S_uint8 (by assumption)) rfl ?_
   clear h a w; intro a w h
   refine wv h (r_bin h rfl rfl (B.gtr_int)) rfl ?_
   clear h a w; intro a w h
   refine wnil (c_then ?_)
   refine c_condD h rfl (fun ht1 => ?_) (fun ht1 => ?_)
   ·
    refine c_skip ?_
    refine c_then ?_
    refine c_block ?_
    refine c_seq (c_region ?_)
    refine wv h (r_move h rfl) rfl ?_
    clear h a w; intro a w h
    refine wv h (r_move h rfl) rfl ?_
    clear h a w; intro a w h
    refine wl rfl (op_call h rfl K.go_delta_longest (delta_longest s _ bw qv base q _ hbc hqc h.2) rfl ?_)
    clear h a w; intro x a w hx h
    refine wv h (r_move h rfl) rfl ?_
    clear h a w; intro a w h
    refine wv h (r_extractN h rfl rfl) rfl ?_
    clear h a w; intro a w h
    refine wv h (r_extractN h rfl rfl) rfl ?_
    clear h a w; intro a w h
    refine wv h (r_assign h rfl) rfl ?_
    clear h a w; intro a w h
    refine wv h (r_assign h rfl) rfl ?_
    clear h a w; intro a w h
    refine wnil (c_then ?_)
    refine c_seq ?_
    refine c_seq (c_region ?_)
    refine wv h (r_move h rfl) rfl ?_
    clear h a w; intro a w h
    refine wv h (r_bin h rfl rfl (B.lss_int)) rfl ?_
    clear h a w; intro a w h
    refine wnil (c_then ?_)
    refine c_condD h rfl (fun ht2 => ?_) (fun ht2 => ?_)
    ·
     have ho := makeA_one (t := t) (show 0 < q.length by omega) (show (longN base q).2 < 4 by omega)
     as_aux_lemma =>
      refine c_seq (c_drawn 16 K.mixed rfl h ?_)
      clear h a w; intro a w h
      have hD : Paid s w [] := Paid.nil
      refine d_take0 (listed' := #[true, false, false, false, false, false, false, false, false, false, false, false, false, false, false, false]) h hD 0 (by as_aux_lemma => kernel_rfl) rfl (by as_aux_lemma => kernel_rfl) (by as_aux_lemma => kernel_rfl) (by as_aux_lemma => kernel_rfl) (fun _ _ _ _ hh => hh) (fun w h => by exact r_move h rfl) rfl ?_
      clear hD h a w; intro a w h hD
      refine d_take0 (listed' := #[true, true, false, false, false, false, false, false, false, false, false, false, false, false, false, false]) h hD 1 (by as_aux_lemma => kernel_rfl) rfl (by as_aux_lemma => kernel_rfl) (by as_aux_lemma => kernel_rfl) (by as_aux_lemma => kernel_rfl) (fun _ _ _ _ hh => hh) (fun w h => by exact r_move h rfl) rfl ?_
      clear hD h a w; intro a w h hD
      refine d_take0 (listed' := #[true, true, true, false, false, false, false, false, false, false, false, false, false, false, false, false]) h hD 2 (by as_aux_lemma => kernel_rfl) rfl (by as_aux_lemma => kernel_rfl) (by as_aux_lemma => kernel_rfl) (by as_aux_lemma => kernel_rfl) (fun _ _ _ _ hh => hh) (fun w h => by exact r_nilCheck h rfl) rfl ?_
      clear hD h a w; intro a w h hD
      refine d_take0 (listed' := #[true, true, true, true, false, false, false, false, false, false, false, false, false, false, false, false]) h hD 3 (by as_aux_lemma => kernel_rfl) rfl (by as_aux_lemma => kernel_rfl) (by as_aux_lemma => kernel_rfl) (by as_aux_lemma => kernel_rfl) (fun _ _ _ _ hh => hh) (fun w h => by exact r_fieldAddr h 1 rfl K.u_delta_maker rfl K.sz_S_uint8 rfl rfl) rfl ?_
      clear hD h a w; intro a w h hD
      refine d_take (listed' := #[true, true, true, true, true, false, false, false, false, false, false, false, false, false, false, false]) h hD 4 ([MkF b vt]) (by as_aux_lemma => kernel_rfl) rfl (by as_aux_lemma => kernel_rfl) (by as_aux_lemma => kernel_rfl) (by as_aux_lemma => kernel_rfl) (fun _ _ _ _ hh => hh) (by exact MkF_of h.2) (fun w hw => by exact match MkF_open hw /- Views -/ with | ⟨v0, hw⟩ => r_ldN ⟨h.1, hw⟩ rfl K.u_S_uint8 rfl 0 rfl rfl) rfl ?_
      clear hD h a w; intro a w h hD
      refine d_take0 (listed' := #[true, true, true, true, true, true, false, false, false, false, false, false, false, false, false, false]) h hD 5 (by as_aux_lemma => kernel_rfl) rfl (by as_aux_lemma => kernel_rfl) (by as_aux_lemma => kernel_rfl) (by as_aux_lemma => kernel_rfl) (fun _ _ _ _ hh => hh) (fun w h => by exact r_move h rfl) rfl ?_
      clear hD h a w; intro a w h hD
      refine d_take (listed' := #[true, true, true, true, true, true, true, false, false, false, false, false, false, false, false, false]) h hD 6 (F) (by as_aux_lemma => kernel_rfl) rfl (by as_aux_lemma => kernel_rfl) (by as_aux_lemma => kernel_rfl) (by as_aux_lemma => kernel_rfl) (fun _ _ _ _ hh => hh) (by exact h.2.drop 3) (fun w hw => by exact r_elP ⟨h.1, hw⟩ rfl rfl K.u_S_uint8 K.sz_uint8 (by assumption) (by omega) (by omega)) rfl ?_
      clear hD h a w; intro a w h hD
      refine d_take (listed' := #[true, true, true, true, true, true, true, true, false, false, false, false, false, false, false, false]) h hD 7 (F) (by as_aux_lemma => kernel_rfl) rfl (by as_aux_lemma => kernel_rfl) (by as_aux_lemma => kernel_rfl) (by as_aux_lemma => kernel_rfl) (fun _ _ _ _ hh => hh) (by exact h.2.drop 3) (fun w hw => by exact r_elb ⟨h.1, hw⟩ rfl K.u_uint8 rfl (by assumption) (by omega)) rfl ?_
      clear hD h a w; intro a w h hD
      refine d_take0 (listed' := #[true, true, true, true, true, true, true, true, false, false, true, false, false, false, false, false]) h hD 10 (by as_aux_lemma => kernel_rfl) rfl (by as_aux_lemma => kernel_rfl) (by as_aux_lemma => kernel_rfl) (by as_aux_lemma => kernel_rfl) (fun _ _ _ _ hh => hh) (fun w h => by exact r_move h rfl) rfl ?_
      clear hD h a w; intro a w h hD
      refine d_take (listed' := #[true, true, true, true, true, true, true, true, false, false, true, true, false, false, false, false]) h hD 11 (F) (by as_aux_lemma => kernel_rfl) rfl (by as_aux_lemma => kernel_rfl) (by as_aux_lemma => kernel_rfl) (by as_aux_lemma => kernel_rfl) (fun _ _ _ _ hh => hh) (by exact h.2.drop 3) (fun w hw => by exact r_sliceB /- Views -/ ⟨h.1, hw⟩ rfl K.u_S_uint8 K.sz_uint8 hq 1 q.length ⟨_, rfl⟩ rfl (by omega) (Nat.le_refl _)) rfl ?_
      clear hD h a w; intro a w h hD
      refine d_only (listed' := #[true, true, true, true, true, true, true, true, true, false, true, true, false, false, false, false]) 8 [true, false, true, true] (by as_aux_lemma => kernel_rfl) rfl rfl (by as_aux_lemma => kernel_rfl) (by as_aux_lemma => kernel_rfl) ?_
      refine op_buildSlice h K.u_S_uint8 K.sz_uint8 K.z_uint8 rfl rfl rfl rfl rfl (by simp [Value.cells, bv, w32, w64, sv]) rfl ?_
      clear hD h a w; intro b29 a w h
      refine d_pay (Paid.cons (by exact h.2.drop 4) (Paid.cons (by exact h.2.drop 4) (Paid.cons (by exact MkF_of (h.2.drop 1)) (Paid.nil)))) (fun hD => ?_)
      refine d_only (listed' := #[true, true, true, true, true, true, true, true, true, true, true, true, false, false, false, false]) 9 [true, true, false] (by as_aux_lemma => kernel_rfl) rfl rfl (by as_aux_lemma => kernel_rfl) (by as_aux_lemma => kernel_rfl) ?_
      refine op_appendb h rfl rfl K.u_S_uint8 K.sz_uint8 K.z_uint8 rfl rfl 2 rfl (by omega) rfl ?_
      clear hD h a w; intro v30 a w h
      (simp only [List.set_cons_zero, List.set_cons_succ] at h)
      refine d_pay (Paid.cons (by exact h.2.drop 3) (Paid.cons (by exact h.2.drop 3) (Paid.nil))) (fun hD => ?_)
      refine d_take0 (listed' := #[true, true, true, true, true, true, true, true, true, true, true, true, true, false, false, false]) h hD 12 (by as_aux_lemma => kernel_rfl) rfl (by as_aux_lemma => kernel_rfl) (by as_aux_lemma => kernel_rfl) (by as_aux_lemma => kernel_rfl) (fun _ _ _ _ hh => hh) (fun w h => by exact r_nilCheck h rfl) rfl ?_
      clear hD h a w; intro a w h hD
      refine d_take0 (listed' := #[true, true, true, true, true, true, true, true, true, true, true, true, true, true, false, false]) h hD 13 (by as_aux_lemma => kernel_rfl) rfl (by as_aux_lemma => kernel_rfl) (by as_aux_lemma => kernel_rfl) (by as_aux_lemma => kernel_rfl) (fun _ _ _ _ hh => hh) (fun w h => by exact r_fieldAddr h 1 rfl K.u_delta_maker rfl K.sz_S_uint8 rfl rfl) rfl ?_
      clear hD h a w; intro a w h hD
      refine d_only (listed' := #[true, true, true, true, true, true, true, true, true, true, true, true, true, true, true, false]) 14 [true, false] (by as_aux_lemma => kernel_rfl) rfl rfl (by as_aux_lemma => kernel_rfl) (by as_aux_lemma => kernel_rfl) ?_
      refine op_storeN h rfl rfl K.sz_S_uint8 (by exact Views.oneCell (Views.own 2 rfl) h.2) 0 rfl rfl ?_
      clear hD h a w; intro a w h
      (simp only [List.set_cons_zero, List.set_cons_succ] at h)
      refine d_pay (Paid.cons (by exact h.2.drop 3) (Paid.nil)) (fun hD => ?_)
      refine d_take0 (listed' := #[true, true, true, true, true, true, true, true, true, true, true, true, true, true, true, true]) h hD 15 (by as_aux_lemma => kernel_rfl) rfl (by as_aux_lemma => kernel_rfl) (by as_aux_lemma => kernel_rfl) (by as_aux_lemma => kernel_rfl) (fun _ _ _ _ hh => hh) (fun w h => by exact r_assign h rfl) rfl ?_
      clear hD h a w; intro a w h hD
      refine d_done (by kernel_rfl) ?_
      clear hD
      refine c_then ?_
      refine c_exit ?_
      refine e_then ?_
      refine e_here ?_
      refine ⟨(vp, v30, subV 1 qv 1 q.length, l, t ++ [q.getD 0 0], q.drop 1), h.keep [0, 1, 5], ⟨?_, by rw [← hx2, ho], by simp only [List.length_append, List.length_drop, List.length_singleton]; omega⟩, by show (q.drop 1).length < q.length; rw [List.length_drop]; omega⟩
      have := hq.sub (i := 1) (j := q.length) (by omega) (Nat.le_refl _)
      rwa [List.take_of_length_le (by simp)] at this
    ·
     have ho := makeA_long (t := t) (show ¬ (longN base q).2 < 4 by omega)
     have htl := tellN_le (t := t) (by omega)
     have hn1 := numN_len9 (2 * (longN base q).2 + 1) (by omega)
     have hn2 := numN_len9 (longN base q).1 (by omega)
     refine c_skip ?_
     refine c_then ?_
     refine c_seq (c_region ?_)
     refine wv h (r_move h rfl) rfl ?_
     clear h a w; intro a w h
     refine wl rfl (op_call h rfl K.go_delta_maker_tell (delta_tell s _ b vp vt l t _ (by omega) h.2) rfl ?_)
     clear h a w; intro v36 a w hx h
     refine wnil (c_then ?_)
     refine c_seq (c_region ?_)
     refine wv h (r_move h rfl) rfl ?_
     clear h a w; intro a w h
     refine wv h (r_nilCheck h rfl) rfl ?_
     clear h a w; intro a w h
     refine wv h (r_fieldAddr0 h rfl K.u_delta_maker rfl K.sz_digit_Pen rfl rfl) rfl ?_
     clear h a w; intro a w h
     refine wv h (r_move h rfl) rfl ?_
     clear h a w; intro a w h
     refine wv h (r_bin h rfl rfl (B.mul_i64 (by omega) (by omega))) rfl ?_
     clear h a w; intro a w h
     refine wv h (r_bin h rfl rfl (B.add_i64 (by omega) (by omega))) rfl ?_
     clear h a w; intro a w h
     rw [show (2 : Int) * ((longN base q).2 : Int) + 1 = ((2 * (longN base q).2 + 1 : Nat) : Int) by omega] at h
     refine wl rfl (op_call h rfl K.go_digit_Pen_Num (pen_num s _ b 0 _ _ v36 _ (2 * (longN base q).2 + 1) _ (by omega) rfl (by simp only [List.length_append]; omega) h.2) rfl ?_)
     clear h a w; intro v43 a w hx h
     refine wv h (r_move h rfl) rfl ?_
     clear h a w; intro a w h
     refine wl rfl (op_call h rfl K.go_digit_Pen_Num (pen_num s _ b 0 _ _ v43 _ (longN base q).1 _ (by omega) rfl (by simp only [List.length_append]; omega) h.2) rfl ?_)
     clear h a w; intro v45 a w hx h
     refine wnil (c_then ?_)
     refine c_region ?_
     refine wv h (r_move h rfl) rfl ?_
     clear h a w; intro a w h
     refine wv h (r_move h rfl) rfl ?_
     clear h a w; intro a w h
     refine wv h (r_sliceB h rfl K.u_S_uint8 K.sz_uint8 (((hq.cons _).cons _).cons _) (longN base q).2 q.length ⟨_, rfl⟩ rfl (by omega) (Nat.le_refl _)) rfl ?_
     clear h a w; intro a w h
     refine wv h (r_assign h rfl) rfl ?_
     clear h a w; intro a w h
     refine wnil ?_
     refine b_normal ?_
     refine ⟨(v45, .slice none 0 0, subV 1 qv (longN base q).2 q.length, l ++ tellN t ++ numN (2 * (longN base q).2 + 1) ++ numN (longN base q).1, [], q.drop (longN base q).2), h.keep [0, 1, 5], ⟨?_, by rw [← hx2, ho]; simp only [List.append_assoc], by simp only [List.length_append, List.length_drop, List.length_nil]; omega⟩, by show (q.drop _).length < q.length; rw [List.length_drop]; omega⟩
     have := hq.sub (i := (longN base q).2) (j := q.length) (by omega) (Nat.le_refl _)
     rwa [List.take_of_length_le (by simp)] at this
   ·
    obtain rfl : q = [] := List.eq_nil_of_length_eq_zero (by omega)
    rw [makeA_nil] at hx2
    refine c_exit ?_
    refine e_then ?_
    refine e_then ?_
    refine e_here ?_
    refine c_then ?_
    refine c_seq (c_region ?_)
    refine wv h (r_move h rfl) rfl ?_
    clear h a w; intro a w h
    refine wl rfl (op_call h rfl K.go_delta_maker_tell (delta_tell s _ b vp vt l t _ (by omega) h.2) rfl ?_)
    clear h a w; intro v50 a w hx h
    refine wnil (c_then ?_)
    refine c_seq (c_region ?_)
    refine wv h (r_move h rfl) rfl ?_
    clear h a w; intro a w h
    refine wv h (r_nilCheck h rfl) rfl ?_
    clear h a w; intro a w h
    refine wv h (r_fieldAddr0 h rfl K.u_delta_maker rfl K.sz_digit_Pen rfl rfl) rfl ?_
    clear h a w; intro a w h
    refine wv h (r_fieldAddr0 h rfl K.u_digit_Pen rfl K.sz_S_uint8 rfl rfl) rfl ?_
    clear h a w; intro a w h
    refine wv h (r_ldN h rfl K.u_S_uint8 rfl 0 rfl rfl) rfl ?_
    clear h a w; intro a w h
    refine wv h (r_assign h rfl) rfl ?_
    clear h a w; intro a w h
    refine wnil (c_then ?_)
    refine c_ret ?_
    rw [hx2] at h
    exact ret1 h rfl rfl ⟨v50, rfl, ((h.2.drop 1).perm (.swap _ _ _)).drop 1, trivial⟩
end Go.Proofs.K

/- Packs: objects by their keys. -/
namespace Go.Sl
abbrev bp (b : Nat) : Value := .pointer (some ⟨b, 0, none⟩)
def cellsS (x : SlV) : List Value := [x.v]
instance : Row cellsS 1 := ⟨fun _ => rfl, fun x u hu => by simp only [cellsS, List.mem_singleton] at hu; subst hu; rfl⟩
def keyO (p : List UInt8) : Key := ⟨sha p, sha_len p⟩
def itm (x : SlV) : ItV := ⟨keyO x.p, x⟩
def srtd (xs : List SlV) : List ItV := comp (isort (xs.map itm))
theorem flatS (xs : List SlV) : xs.flatMap cellsS = xs.map SlV.v := by
  induction xs with
  | nil => rfl
  | cons x l ih => rw [List.flatMap_cons, ih]; rfl
theorem fill_item (k : List UInt8) (hk : k.length = 32) (x : SlV) (zs : List Value) (hz : zs.length = 33) : Instr.fill (fun i => ([(0, 32), (32, 1)] : List (Nat × Nat))[i]?) ⟨zs⟩ [(0, .agg (arr8 k)), (1, x.v)] = some ⟨bs k ++ [x.v]⟩ := by
  have hb : (bs k).length = 32 := by rw [bs_length, hk]
  rw [fill_step (off := 0) (size := 32) (us := bs k) rfl rfl hb (by omega)]
  rw [fill_step (off := 32) (size := 1) (us := [x.v]) rfl rfl rfl (by simp [hb]; omega), Instr.fill]
  simp [List.take_append, List.drop_append, hb, hz]
theorem compL_sub : ∀ (p : ItV) (l : List ItV) (x : ItV), x ∈ compL p l → x ∈ l
  | _, [], _, h => by simp [compL] at h
  | p, y :: l, x, h => by
    rw [compL] at h
    split at h
    · exact List.mem_cons_of_mem _ (compL_sub _ _ _ h)
    · rcases List.mem_cons.1 h with rfl | h
      · simp
      · exact List.mem_cons_of_mem _ (compL_sub _ _ _ h)
theorem comp_sub : ∀ (l : List ItV) (x : ItV), x ∈ comp l → x ∈ l
  | [], _, h => by simp [comp] at h
  | y :: l, x, h => by
    rw [comp] at h
    rcases List.mem_cons.1 h with rfl | h
    · simp
    · exact List.mem_cons_of_mem _ (compL_sub _ _ _ h)
theorem compL_len : ∀ (p : ItV) (l : List ItV), (compL p l).length ≤ l.length
  | _, [] => Nat.le_refl _
  | p, y :: l => by
    rw [compL]
    have := compL_len y l
    split
    · have := compL_len y l; simp only [List.length_cons]; omega
    · simp only [List.length_cons]; omega
theorem comp_len : ∀ (l : List ItV), (comp l).length ≤ l.length
  | [] => Nat.le_refl _
  | y :: l => by rw [comp]; have := compL_len y l; simp only [List.length_cons]; omega
theorem srtd_mem {xs : List SlV} {i : ItV} (h : i ∈ srtd xs) : i.x ∈ xs ∧ i.k = keyO i.x.p := by
  have := (isort_stb (xs.map itm)).symm.mem (comp_sub _ _ h)
  obtain ⟨x, hx, rfl⟩ := List.mem_map.1 this
  exact ⟨hx, rfl⟩
theorem srtd_len (xs : List SlV) : (srtd xs).length ≤ xs.length := by
  have := comp_len (isort (xs.map itm))
  rw [isort_len, List.length_map] at this
  exact this
end Go.Sl
namespace Go.Proofs.K
open Go.Sl
attribute [local irreducible] Go.Sl.Own Go.Sl.Blk Go.Sl.Sep Go.Sl.Ex Go.Sl.Fact
theorem pack_sort (s w : World) (v : Value) (xs : List SlV) (F : List HItem) (hT : HasParts F) (hF : HasFirst F) (hv : Views F 1 v xs.length (xs.flatMap cellsS)) (hp : ∀ x ∈ xs, ViewsB F x.v x.p ∧ x.p.length ≤ 2147483648) (hl : xs.length ≤ 4000000) (hs : Sat s w F) :
    Calls P n_pack_sorted #[v] w (Ret s (fun v' : Value => v') (fun v' => OwnM 33 cellsI v' (srtd xs) :: F) (fun _ => True)) := by
  refine enter K.fn_pack_sorted rfl K.nt_pack_sorted rfl hs ?_
  clear hs w; intro a w h
  refine c_seq (c_region ?_)
  refine wv h (r_assign h rfl) rfl ?_
  clear h a w; intro a w h
  refine wnil (c_then ?_)
  refine c_seq (c_region ?_)
  refine wv h (r_assign h rfl) rfl ?_
  clear h a w; intro a w h
  refine wnil (c_then ?_)
  refine c_seq ?_
  refine c_seq (c_region ?_)
  refine wv h (r_move h rfl) rfl ?_
  clear h a w; intro a w h
  refine wv h (r_lenV h rfl K.u_S_S_uint8 (by assumption)) rfl ?_
  clear h a w; intro a w h
  refine wv h (r_move h rfl) rfl ?_
  clear h a w; intro a w h
  refine wnil (c_then ?_)
  refine c_block ?_
  replace h := h.addNilM (size := 33) (cells := cellsI)
  refine c_loop (X := Nat × Value) (fun z => [(3, z.2), (6, v), (7, .int .i64 (xs.length : Int)), (8, .int .i64 (z.1 : Int))]) (fun z => OwnM 33 cellsI z.2 ((xs.take z.1).map itm) :: F) (fun z => z.1 ≤ xs.length) (fun z => xs.length - z.1) (0, .slice none 0 0) (h.keep [3, 6, 7, 8]) (Nat.zero_le _) ?_
  clear h a w; intro z a w hz h
  obtain ⟨i, ov⟩ := z
  simp only at hz h
  as_aux_lemma =>
   refine c_seq (c_region ?_)
   refine wv h (r_bin h rfl rfl (B.lss_int)) rfl ?_
   clear h a w; intro a w h
   refine wnil (c_then ?_)
   refine c_seq ?_
   refine c_condP (p := i < xs.length) h rfl (by simp) (fun ht1 => ?_) (fun ht1 => ?_)
   ·
    obtain ⟨x, hx⟩ : ∃ x, xs[i]? = some x := ⟨_, List.getElem?_eq_getElem ht1⟩
    obtain ⟨hxv, hxl⟩ := hp x (List.mem_of_getElem? hx)
    have tx : xs.take (i + 1) = xs.take i ++ [x] := by rw [List.take_add_one, hx]; rfl
    have hxc : (xs.flatMap cellsS)[i * 1]? = some x.v := by rw [flatS, Nat.mul_one, List.getElem?_map, hx]; rfl
    have hml : ((xs.take i).map itm).length = i := by rw [List.length_map, List.length_take]; omega
    have hci : cellsI (itm x) = bs (sha x.p) ++ [x.v] := rfl
    have hsl := sha_len x.p
    obtain ⟨ki, hki⟩ : ∃ k, k = sha x.p := ⟨_, rfl⟩
    obtain ⟨ix, hix⟩ : ∃ k, k = itm x := ⟨_, rfl⟩
    rw [← hki] at hsl hci
    rw [← hix] at hci
    have hfi := fill_item ki hsl x
    refine c_skip ?_
    refine c_then ?_
    refine c_seq ?_
    refine c_block ?_
    refine c_seq (c_region ?_)
    refine wv h (r_elPv h rfl rfl K.u_S_S_uint8 K.sz_S_uint8 (hv.cons _) i rfl ht1) rfl ?_
    clear h a w; intro a w h
    refine wv h (r_elG h rfl K.u_S_uint8 rfl (hv.cons _) hxc) rfl ?_
    clear h a w; intro a w h
    refine wv h (r_assign h rfl) rfl ?_
    clear h a w; intro a w h
    refine wnil (c_then ?_)
    refine c_region ?_
    refine wv h (r_move h rfl) rfl ?_
    clear h a w; intro a w h
    refine wv h (r_move h rfl) rfl ?_
    clear h a w; intro a w h
    refine wl rfl (op_call h rfl K.go_stamp_Of (stamp_Of s _ x.v x.p _ (hT.cons _) (hF.cons _) (hxv.cons _) hxl h.2) rfl ?_)
    clear h a w; intro z14 a w hz14 h
    rw [← hki] at h
    refine wv h (r_move h rfl) rfl ?_
    clear h a w; intro a w h
    refine wv h (r_build (cells := ⟨cellsI ix⟩) h K.u_pack_item K.z_pack_item K.pl_pack_item rfl (by rw [hci]; exact hfi _ rfl)) rfl ?_
    clear h a w; intro a w h
    refine wl rfl (op_build1 (us := cellsI ix) h K.u_S_pack_item K.sz_pack_item K.z_pack_item rfl rfl rfl (Row.len ix) rfl ?_)
    clear h a w; intro b17 a w h
    refine wl rfl (op_appendR1 (cells := cellsI) (u := ix) h rfl rfl K.u_S_pack_item K.sz_pack_item K.z_pack_item rfl rfl 0 rfl (by omega) rfl ?_)
    clear h a w; intro v18 a w h
    simp only [List.set_cons_zero] at h
    refine wv h (r_assign h rfl) rfl ?_
    clear h a w; intro a w h
    refine wnil ?_
    refine b_normal ?_
    refine c_then ?_
    refine c_region ?_
    refine wv h (r_bin h rfl rfl (B.add_i64 (by omega) (by omega))) rfl ?_
    clear h a w; intro a w h
    refine wv h (r_move h rfl) rfl ?_
    clear h a w; intro a w h
    refine wnil ?_
    refine ⟨(i + 1, v18), ?_, ht1, by simp only; omega⟩
    have e : (xs.take (i + 1)).map itm = (xs.take i).map itm ++ [ix] := by rw [tx, List.map_append, hix]; rfl
    show St 24 s a w _ (OwnM 33 cellsI v18 ((xs.take (i + 1)).map itm) :: F)
    rw [e]
    exact h.keep [3, 6, 7, 8]
   ·
    rw [List.take_of_length_le (by omega)] at h
    refine c_exit ?_
    refine e_then ?_
    refine e_then ?_
    refine e_here ?_
    refine c_then ?_
    refine c_seq (c_region ?_)
    refine wv h (r_move h rfl) rfl ?_
    clear h a w; intro a w h
    refine wl rfl (op_call h rfl K.go_slices_SortStableFunc_pack_item_pack_item (sl_SortStable s _ ov (xs.map itm) _ (by rw [List.length_map]; exact hl) h.2) rfl ?_)
    clear h a w; intro z21 a w hz21 h
    refine wnil (c_then ?_)
    refine c_seq (c_region ?_)
    refine wv h (r_move h rfl) rfl ?_
    clear h a w; intro a w h
    refine wl rfl (op_call h rfl K.go_slices_CompactFunc_pack_item_pack_item (sl_Compact s _ ov (isort (xs.map itm)) _ (by rw [isort_len, List.length_map]; exact hl) h.2) rfl ?_)
    clear h a w; intro v23 a w hz23 h
    refine wv h (r_assign h rfl) rfl ?_
    clear h a w; intro a w h
    refine wnil (c_then ?_)
    refine c_ret ?_
    exact ret1 h rfl rfl ⟨v23, rfl, h.2, trivial⟩
end Go.Proofs.K

/- Packs: Encode. -/
namespace Go.Sl
def encG : Option (List UInt8) → Nat → List UInt8 → List (List UInt8) → Option (List UInt8)
  | _, _, acc, [] => some acc
  | prev, ch, acc, p :: l =>
    if p.length = 0 ∨ 900 < p.length then none else
    if prev.isSome = true ∧ ch < 4 ∧ (deltaN (prev.getD []) p).length < p.length then encG (some p) (ch + 1) (acc ++ numN (2 * (deltaN (prev.getD []) p).length + 1) ++ deltaN (prev.getD []) p) l
    else encG (some p) 0 (acc ++ numN (2 * p.length) ++ p) l
def headP (n : Nat) : List UInt8 := [80, 49] ++ numN n
def sealP (b : List UInt8) : List UInt8 := b ++ fourN (crcN b)
def encP (ps : List (List UInt8)) : Option (List UInt8) := if 64 < ps.length then none else (encG none 0 (headP ps.length) ps).map sealP
def bytesI (its : List ItV) : List (List UInt8) := its.map fun i => i.x.p
def prevP (ps : List (List UInt8)) (i : Nat) : Option (List UInt8) := if i = 0 then none else ps[i - 1]?
theorem cellsI_x (i : ItV) : nth (cellsI i) 32 = some i.x.v := by
  rw [nth_eq, cellsI, List.getElem?_append_right (by rw [bs_length, i.k.len]; exact Nat.le_refl _), bs_length, i.k.len]; rfl
end Go.Sl
namespace Go.Proofs.K
open Go.Sl
attribute [local irreducible] Go.Sl.Own Go.Sl.Blk Go.Sl.Sep Go.Sl.Ex Go.Sl.Fact
theorem pack_Encode (s w : World) (v : Value) (xs : List SlV) (F : List HItem) (hT : HasParts F) (hF : HasFirst F) (hC : HasLines F) (hv : Views F 1 v xs.length (xs.flatMap cellsS)) (hp : ∀ x ∈ xs, ViewsB F x.v x.p ∧ x.p.length ≤ 2147483648) (hl : xs.length ≤ 4000000) (hs : Sat s w F) :
    Calls P n_pack_Encode #[v] w (Ret s (fun v' : Value => .tuple #[v', .int .i64 (if (encP (bytesI (srtd xs))).isSome then 0 else 1)]) (fun v' => OwnB v' ((encP (bytesI (srtd xs))).getD []) :: F) (fun _ => True)) := by
  refine enter K.fn_pack_Encode rfl K.nt_pack_Encode rfl hs ?_
  clear hs w; intro a w h
  refine c_seq (c_region ?_)
  refine wv h (r_assign h rfl) rfl ?_
  clear h a w; intro a w h
  refine wv h (r_assign h rfl) rfl ?_
  clear h a w; intro a w h
  refine wnil (c_then ?_)
  refine c_seq (c_region ?_)
  refine wv h (r_move h rfl) rfl ?_
  clear h a w; intro a w h
  refine wl rfl (op_call h rfl K.go_pack_sorted (pack_sort s _ v xs _ hT hF hv hp hl h.2) rfl ?_)
  clear h a w; intro v11 a w hz11 h
  (simp only [List.set_cons_zero, List.set_cons_succ] at h)
  have hmem : ∀ i ∈ srtd xs, ViewsB F i.x.v i.x.p ∧ i.x.p.length ≤ 2147483648 := fun i hi => hp _ (srtd_mem hi).1
  obtain ⟨its, hits⟩ : ∃ its, its = srtd xs := ⟨_, rfl⟩
  have hil : its.length ≤ xs.length := by rw [hits]; exact srtd_len xs
  rw [← hits] at hmem ⊢
  rw [← hits] at h
  obtain ⟨ps, hps⟩ : ∃ ps, ps = bytesI its := ⟨_, rfl⟩
  have hpl : ps.length = its.length := by rw [hps, bytesI, List.length_map]
  rw [← hps]
  refine wv h (r_assign h rfl) rfl ?_
  clear h a w; intro a w h
  refine wnil (c_then ?_)
  refine c_seq ?_
  refine c_seq (c_region ?_)
  refine wv h (r_move h rfl) rfl ?_
  clear h a w; intro a w h
  refine wv h (r_lenV h rfl K.u_S_pack_item (by exact Views.own 0 rfl)) rfl ?_
  clear h a w; intro a w h
  refine wv h (r_bin h rfl rfl (B.gtr_int)) rfl ?_
  clear h a w; intro a w h
  refine wnil (c_then ?_)
  refine c_condP (p := 64 < its.length) h rfl (by simp; omega) (fun ht1 => ?_) (fun ht1 => ?_)
  ·
   as_aux_lemma =>
    refine c_seq (c_region ?_)
    refine wv h (r_assign h rfl) rfl ?_
    clear h a w; intro a w h
    refine wv h (r_assign h rfl) rfl ?_
    clear h a w; intro a w h
    refine wnil (c_then ?_)
    refine c_ret ?_
    have e : encP ps = none := by rw [encP, if_pos (by omega)]
    replace h := h.addNilb
    exact ret2 h rfl rfl rfl ⟨.slice none 0 0, by rw [e]; rfl, by rw [e]; exact ((h.2.front 1 rfl).tail), trivial⟩
  ·
   refine c_skip ?_
   refine c_then ?_
   refine c_seq (c_region ?_)
   refine wl rfl (op_alloc h K.z_digit_Pen rfl ?_)
   clear h a w; intro b15 a w h
   replace h := St_toPen h
   refine wl rfl (op_buildSlice h K.u_S_uint8 K.sz_uint8 K.z_uint8 rfl rfl rfl rfl rfl (by simp [Value.cells, bv, w32, w64, sv]) rfl ?_)
   clear h a w; intro b16 a w h
   refine wl rfl (op_lit h rfl K.u_S_uint8 K.u_uint8 0 rfl rfl ?_)
   clear h a w; intro a w h
   (simp only [List.set_cons_zero, List.set_cons_succ] at h)
   replace h := h.toOwnb [80, 49] (NF.past _) rfl rfl
   refine wl rfl (op_call h rfl K.go_digit_Pen_Raw (pen_Raw s _ b15 _ [] [80, 49] _ 1 rfl (Views.own 0 rfl) (by simp) h.2) rfl ?_)
   clear h a w; intro x a w hx h
   (simp only [List.set_cons_zero, List.set_cons_succ] at h)
   refine wv h (r_move h rfl) rfl ?_
   clear h a w; intro a w h
   refine wv h (r_lenV h rfl K.u_S_pack_item (by exact Views.own 2 rfl)) rfl ?_
   clear h a w; intro a w h
   refine wl rfl (op_call h rfl K.go_digit_Pen_Num (pen_Num s _ b15 [80, 49] its.length _ 1 rfl (by omega) (by simp) h.2) rfl ?_)
   clear h a w; intro x a w hx h
   (simp only [List.set_cons_zero, List.set_cons_succ] at h)
   refine wv h (r_assign h rfl) rfl ?_
   clear h a w; intro a w h
   refine wnil (c_then ?_)
   refine c_seq (c_region ?_)
   refine wv h (r_assign h rfl) rfl ?_
   clear h a w; intro a w h
   refine wnil (c_then ?_)
   refine c_seq ?_
   refine c_seq (c_region ?_)
   refine wv h (r_move h rfl) rfl ?_
   clear h a w; intro a w h
   refine wv h (r_lenV h rfl K.u_S_pack_item (by exact Views.own 2 rfl)) rfl ?_
   clear h a w; intro a w h
   refine wv h (r_move h rfl) rfl ?_
   clear h a w; intro a w h
   refine wnil (c_then ?_)
   refine c_block ?_
   replace h := h.mem (fun q => q.tail)
   have hhd : [80, 49] ++ numN its.length = headP ps.length := by rw [hpl]; rfl
   have hhl : (headP ps.length).length ≤ 20 := by have := numN_len9 ps.length (by omega); rw [headP, List.length_append]; simp only [List.length_cons, List.length_nil]; omega
   rw [hhd] at h
   refine c_loop (X := Nat × Nat × List UInt8) (fun z => [(4, v11), (5, bp b15), (6, .int .i64 (z.2.1 : Int)), (22, v11), (23, .int .i64 (its.length : Int)), (24, .int .i64 (z.1 : Int))]) (fun z => PenI b15 z.2.2 :: OwnM 33 cellsI v11 its :: F)
     (fun z => z.1 ≤ its.length ∧ z.2.1 ≤ 4 ∧ z.2.2.length ≤ 20 + 920 * z.1 ∧ encG none 0 (headP ps.length) ps = encG (prevP ps z.1) z.2.1 z.2.2 (ps.drop z.1)) (fun z => its.length - z.1) (0, 0, headP ps.length) (h.keep [4, 5, 6, 22, 23, 24]) ⟨Nat.zero_le _, by simp only; omega, by simp only; omega, rfl⟩ ?_
   clear h a w; intro z a w hz h
   obtain ⟨i, ch, acc⟩ := z
   obtain ⟨z1, z2, z3, z4⟩ := hz
   simp only at z1 z2 z3 z4 h
   as_aux_lemma =>
    refine c_seq (c_region ?_)
    refine wv h (r_bin h rfl rfl (B.lss_int)) rfl ?_
    clear h a w; intro a w h
    refine wnil (c_then ?_)
    refine c_seq ?_
    refine c_condP (p := i < its.length) h rfl (by simp) (fun ht2 => ?_) (fun ht2 => ?_)
    ·
     obtain ⟨it, hit⟩ : ∃ it, its[i]? = some it := ⟨_, List.getElem?_eq_getElem ht2⟩
     obtain ⟨hxv, hxl⟩ := hmem it (List.mem_of_getElem? hit)
     have hpi : ps[i]? = some it.x.p := by rw [hps, bytesI, List.getElem?_map, hit]; rfl
     have dp : ps.drop i = it.x.p :: ps.drop (i + 1) := by
       obtain ⟨hlt, e⟩ := List.getElem?_eq_some_iff.1 hpi
       rw [List.drop_eq_getElem_cons hlt, e]
     rw [dp, encG] at z4
     have hcx := cellsI_x it
     have hcl : (cellsI it).length = 33 := Row.len it
     have hco : ∀ u ∈ cellsI it, u.oneCell' = true := Row.one (size := 33) it
     refine c_skip ?_
     refine c_then ?_
     refine c_seq ?_
     refine c_block ?_
     refine c_seq (c_region ?_)
     refine wv h (r_move h rfl) rfl ?_
     clear h a w; intro a w h
     refine wv h (r_elPv h rfl rfl K.u_S_pack_item K.sz_pack_item (Views.own 1 rfl) i rfl ht2) rfl ?_
     clear h a w; intro a w h
     refine wv h (r_elM (cells := cellsI) h rfl K.u_pack_item rfl K.sz_pack_item rfl (Views.own 1 rfl) hit) rfl ?_
     clear h a w; intro a w h
     refine wl rfl (op_alloc h K.z_pack_item rfl ?_)
     clear h a w; intro b8 a w h
     refine wv h (r_assign h rfl) rfl ?_
     clear h a w; intro a w h
     refine wl rfl (op_stA h rfl rfl K.sz_pack_item (by exact Row.len _) (by exact Row.one _) 0 rfl (by rfl) ?_)
     clear h a w; intro a w h
     (simp only [List.set_cons_zero, List.set_cons_succ] at h)
     refine wnil (c_then ?_)
     refine c_seq ?_
     replace h := h.mem (fun q => q.front 1 rfl)
     simp only [List.eraseIdx_cons_succ, List.eraseIdx_cons_zero] at h
     refine c_seq (c_region ?_)
     refine wv h (r_fieldAddr h 32 rfl K.u_pack_item rfl K.sz_S_uint8 rfl rfl) rfl ?_
     clear h a w; intro a w h
     refine wv h (r_ldN (v := it.x.v) h rfl K.u_S_uint8 rfl 1 rfl hcx) rfl ?_
     clear h a w; intro a w h
     refine wv h (r_lenB h rfl K.u_S_uint8 (((hxv.cons _).cons _).cons _)) rfl ?_
     clear h a w; intro a w h
     refine wv h (r_bin h rfl rfl (B.eql_int)) rfl ?_
     clear h a w; intro a w h
     refine wv h (r_move h rfl) rfl ?_
     clear h a w; intro a w h
     refine wvG h (by exact .f rfl) (fun hg => by (have hg2 := hg; (simp only [Bool.and_eq_true, Bool.or_eq_true, Bool.not_eq_true', decide_eq_true_eq, decide_eq_false_iff_not] at hg2)); exact r_fieldAddr h 32 rfl K.u_pack_item rfl K.sz_S_uint8 rfl rfl) rfl ?_
     clear h a w; intro a w h
     refine wvG h (by exact .f rfl) (fun hg => by (simp only [↓gval_on hg, ↓gval_and hg] at h); exact r_ldN (v := it.x.v) h rfl K.u_S_uint8 rfl 1 rfl hcx) rfl ?_
     clear h a w; intro a w h
     refine wvG h (by exact .f rfl) (fun hg => by (simp only [↓gval_on hg, ↓gval_and hg] at h); exact r_lenB h rfl K.u_S_uint8 (((hxv.cons _).cons _).cons _)) rfl ?_
     clear h a w; intro a w h
     refine wvG h (by exact .f rfl) (fun hg => by (simp only [↓gval_on hg, ↓gval_and hg] at h); (have hg2 := hg; (simp only [Bool.and_eq_true, Bool.or_eq_true, Bool.not_eq_true', decide_eq_true_eq, decide_eq_false_iff_not] at hg2)); exact r_bin h rfl rfl (B.gtr_int)) rfl ?_
     clear h a w; intro a w h
     refine wv h (r_pickO h rfl rfl rfl) rfl ?_
     clear h a w; intro a w h
     refine wnil (c_then ?_)
     refine c_condP (p := it.x.p.length = 0 ∨ 900 < it.x.p.length) h rfl (by simp only [Bool.or_eq_true, decide_eq_true_eq]; omega) (fun ht3 => ?_) (fun ht3 => ?_)
     ·
      as_aux_lemma =>
       refine c_seq (c_region ?_)
       refine wv h (r_assign h rfl) rfl ?_
       clear h a w; intro a w h
       refine wv h (r_assign h rfl) rfl ?_
       clear h a w; intro a w h
       refine wnil (c_then ?_)
       refine c_ret ?_
       rw [if_pos ht3] at z4
       have e : encP ps = none := by rw [encP, if_neg (by omega), z4]; rfl
       replace h := h.addNilb
       exact ret2 h rfl rfl rfl ⟨.slice none 0 0, by rw [e]; rfl, by rw [e]; exact ((((((h.2.front 1 rfl).tail).front 1 rfl).tail).front 1 rfl).tail), trivial⟩
     ·
      rw [if_neg ht3] at z4
      have hp9 : it.x.p.length ≤ 900 := by omega
      have hp1 : 0 < it.x.p.length := by omega
      refine c_skip ?_
      refine c_then ?_
      refine c_meet h (X := Unit) (fun _ => [(4, v11), (5, bp b15), (6, .int .i64 (ch : Int)), (8, bp b8), (22, v11), (23, .int .i64 (its.length : Int)), (24, .int .i64 (i : Int))]) (fun _ => PenI b15 acc :: (Blk b8 (.cells ⟨cellsI it⟩ t_pack_item) :: OwnM 33 cellsI v11 its :: F))
        (fun _ => ¬ ((prevP ps i).isSome = true ∧ ch < 4 ∧ (deltaN ((prevP ps i).getD []) it.x.p).length < it.x.p.length)) ?_ ?_
      ·
       refine c_seq (c_region ?_)
       refine wv h (r_move h rfl) rfl ?_
       clear h a w; intro a w h
       refine wv h (r_bin h rfl rfl (B.gtr_int)) rfl ?_
       clear h a w; intro a w h
       refine wv h (r_move h rfl) rfl ?_
       clear h a w; intro a w h
       refine wvG h (by exact .t rfl) (fun hg => by (have hg2 := hg; (simp only [Bool.and_eq_true, Bool.or_eq_true, Bool.not_eq_true', decide_eq_true_eq, decide_eq_false_iff_not] at hg2)); exact r_move h rfl) rfl ?_
       clear h a w; intro a w h
       refine wvG h (by exact .t rfl) (fun hg => by (simp only [↓gval_on hg, ↓gval_and hg] at h); (have hg2 := hg; (simp only [Bool.and_eq_true, Bool.or_eq_true, Bool.not_eq_true', decide_eq_true_eq, decide_eq_false_iff_not] at hg2)); exact r_bin h rfl rfl (B.lss_int)) rfl ?_
       clear h a w; intro a w h
       refine wv h (r_pickA h rfl rfl rfl) rfl ?_
       clear h a w; intro a w h
       refine wnil (c_then ?_)
       refine c_condP (p := 0 < i ∧ ch < 4) h rfl (by simp only [Bool.and_eq_true, decide_eq_true_eq]; omega) (fun ht4 => ?_) (fun ht4 => ?_)
       ·
        obtain ⟨i0, hi0⟩ : ∃ it0, its[i - 1]? = some it0 := ⟨_, List.getElem?_eq_getElem (by omega)⟩
        obtain ⟨hyv, hyl⟩ := hmem i0 (List.mem_of_getElem? hi0)
        have hpp : prevP ps i = some i0.x.p := by rw [prevP, if_neg (by omega), hps, bytesI, List.getElem?_map, hi0]; rfl
        rw [hpp] at z4 ⊢
        have hcy := cellsI_x i0
        as_aux_lemma =>
         refine c_seq (c_drawn 10 K.mixed rfl h ?_)
         clear h a w; intro a w h
         have hD : Paid s w [] := Paid.nil
         refine d_take0 (listed' := #[true, false, false, false, false, false, false, false, false, false]) h hD 0 (by as_aux_lemma => kernel_rfl) rfl (by as_aux_lemma => kernel_rfl) (by as_aux_lemma => kernel_rfl) (by as_aux_lemma => kernel_rfl) (fun _ _ _ _ hh => hh) (fun w h => by exact r_move h rfl) rfl ?_
         clear hD h a w; intro a w h hD
         refine d_take0 (listed' := #[true, true, false, false, false, false, false, false, false, false]) h hD 1 (by as_aux_lemma => kernel_rfl) rfl (by as_aux_lemma => kernel_rfl) (by as_aux_lemma => kernel_rfl) (by as_aux_lemma => kernel_rfl) (fun _ _ _ _ hh => hh) (fun w h => by exact r_move h rfl) rfl ?_
         clear hD h a w; intro a w h hD
         refine d_take0 (listed' := #[true, true, true, false, false, false, false, false, false, false]) h hD 2 (by as_aux_lemma => kernel_rfl) rfl (by as_aux_lemma => kernel_rfl) (by as_aux_lemma => kernel_rfl) (by as_aux_lemma => kernel_rfl) (fun _ _ _ _ hh => hh) (fun w h => by exact r_bin h rfl rfl (B.sub_i64 (by omega) (by omega))) rfl ?_
         clear hD h a w; intro a w h hD
         refine d_take (listed' := #[true, true, true, true, false, false, false, false, false, false]) h hD 3 _ (by as_aux_lemma => kernel_rfl) rfl (by as_aux_lemma => kernel_rfl) (by as_aux_lemma => kernel_rfl) (by as_aux_lemma => kernel_rfl) (fun _ _ _ _ hh => hh) h.2 (fun w hw => by exact r_elPv /- Views -/ ⟨h.1, hw⟩ rfl rfl K.u_S_pack_item K.sz_pack_item (Views.own 2 rfl) (i - 1) (by omega) (by omega)) rfl ?_
         clear hD h a w; intro a w h hD
         refine d_take (listed' := #[true, true, true, true, true, false, false, false, false, false]) h hD 4 _ (by as_aux_lemma => kernel_rfl) rfl (by as_aux_lemma => kernel_rfl) (by as_aux_lemma => kernel_rfl) (by as_aux_lemma => kernel_rfl) (fun _ _ _ _ hh => hh) h.2 (fun w hw => by exact r_elF /- Views -/ ⟨h.1, hw⟩ 32 rfl K.u_pack_item rfl K.sz_S_uint8 rfl rfl (Views.own 2 rfl) (by omega)) rfl ?_
         clear hD h a w; intro a w h hD
         refine d_take (listed' := #[true, true, true, true, true, true, false, false, false, false]) h hD 5 _ (by as_aux_lemma => kernel_rfl) rfl (by as_aux_lemma => kernel_rfl) (by as_aux_lemma => kernel_rfl) (by as_aux_lemma => kernel_rfl) (fun _ _ _ _ hh => hh) h.2 (fun w hw => by exact r_elMf (cells := cellsI) /- Views -/ ⟨h.1, hw⟩ rfl K.u_S_uint8 rfl (Views.own 2 rfl) hi0 hcy) rfl ?_
         clear hD h a w; intro a w h hD
         refine d_take0 (listed' := #[true, true, true, true, true, true, true, false, false, false]) h hD 6 (by as_aux_lemma => kernel_rfl) rfl (by as_aux_lemma => kernel_rfl) (by as_aux_lemma => kernel_rfl) (by as_aux_lemma => kernel_rfl) (fun _ _ _ _ hh => hh) (fun w h => by exact r_fieldAddr h 32 rfl K.u_pack_item rfl K.sz_S_uint8 rfl rfl) rfl ?_
         clear hD h a w; intro a w h hD
         refine d_take (listed' := #[true, true, true, true, true, true, true, true, false, false]) h hD 7 _ (by as_aux_lemma => kernel_rfl) rfl (by as_aux_lemma => kernel_rfl) (by as_aux_lemma => kernel_rfl) (by as_aux_lemma => kernel_rfl) (fun _ _ _ _ hh => hh) h.2 (fun w hw => by exact r_ldN (v := it.x.v) /- Views -/ ⟨h.1, hw⟩ rfl K.u_S_uint8 rfl 1 rfl hcx) rfl ?_
         clear hD h a w; intro a w h hD
         refine d_only (listed' := #[true, true, true, true, true, true, true, true, true, false]) 8 [false, false, true, true] (by as_aux_lemma => kernel_rfl) rfl rfl (by as_aux_lemma => kernel_rfl) (by as_aux_lemma => kernel_rfl) ?_
         refine op_call h rfl K.go_delta_Make (delta_Make s _ i0.x.v it.x.v i0.x.p it.x.p _ (((hyv.cons _).cons _).cons _) (((hxv.cons _).cons _).cons _) (by omega) h.2) rfl ?_
         clear hD h a w; intro v53 a w hz53 h
         obtain ⟨d, hd⟩ : ∃ d, d = deltaN i0.x.p it.x.p := ⟨_, rfl⟩
         rw [← hd] at h
         simp only [Option.isSome_some, Option.getD_some, true_and] at z4
         rw [← hd] at z4
         refine d_pay (Paid.cons (by exact h.2.drop 1) (Paid.cons (by exact h.2.drop 1) (Paid.nil))) (fun hD => ?_)
         refine d_take0 (listed' := #[true, true, true, true, true, true, true, true, true, true]) h hD 9 (by as_aux_lemma => kernel_rfl) rfl (by as_aux_lemma => kernel_rfl) (by as_aux_lemma => kernel_rfl) (by as_aux_lemma => kernel_rfl) (fun _ _ _ _ hh => hh) (fun w h => by exact r_assign h rfl) rfl ?_
         clear hD h a w; intro a w h hD
         refine d_done (by kernel_rfl) ?_
         clear hD
         refine c_then ?_
         refine c_seq (c_region ?_)
         refine wv h (r_move h rfl) rfl ?_
         clear h a w; intro a w h
         refine wv h (r_lenB h rfl K.u_S_uint8 (by exact ViewsB.own 0 rfl)) rfl ?_
         clear h a w; intro a w h
         refine wv h (r_fieldAddr h 32 rfl K.u_pack_item rfl K.sz_S_uint8 rfl rfl) rfl ?_
         clear h a w; intro a w h
         refine wv h (r_ldN (v := it.x.v) h rfl K.u_S_uint8 rfl 2 rfl hcx) rfl ?_
         clear h a w; intro a w h
         refine wv h (r_lenB h rfl K.u_S_uint8 ((((hxv.cons _).cons _).cons _).cons _)) rfl ?_
         clear h a w; intro a w h
         refine wv h (r_bin h rfl rfl (B.lss_int)) rfl ?_
         clear h a w; intro a w h
         refine wnil (c_then ?_)
         refine c_condP (p := d.length < it.x.p.length) h rfl (by simp) (fun ht5 => ?_) (fun ht5 => ?_)
         ·
          have hn1 := numN_len9 (2 * d.length + 1) (by omega)
          rw [if_pos ⟨ht4.2, ht5⟩] at z4
          as_aux_lemma =>
           refine c_seq (c_region ?_)
           refine wv h (r_move h rfl) rfl ?_
           clear h a w; intro a w h
           refine wv h (r_move h rfl) rfl ?_
           clear h a w; intro a w h
           refine wv h (r_lenB h rfl K.u_S_uint8 (by exact ViewsB.own 0 rfl)) rfl ?_
           clear h a w; intro a w h
           refine wv h (r_bin h rfl rfl (B.mul_i64 (by omega) (by omega))) rfl ?_
           clear h a w; intro a w h
           refine wv h (r_bin h rfl rfl (B.add_i64 (by omega) (by omega))) rfl ?_
           clear h a w; intro a w h
           rw [show (2 * (d.length : Int) + 1) = ((2 * d.length + 1 : Nat) : Int) by omega] at h
           refine wl rfl (op_call h rfl K.go_digit_Pen_Num (pen_Num s _ b15 acc (2 * d.length + 1) _ 1 rfl (by omega) (by omega) h.2) rfl ?_)
           clear h a w; intro z65 a w hz65 h
           (simp only [List.set_cons_zero, List.set_cons_succ] at h)
           refine wv h (r_move h rfl) rfl ?_
           clear h a w; intro a w h
           refine wl rfl (op_call h rfl K.go_digit_Pen_Raw (pen_Raw s _ b15 v53 (acc ++ numN (2 * d.length + 1)) d _ 1 rfl (Views.own 0 rfl) (by simp only [List.length_append]; omega) h.2) rfl ?_)
           clear h a w; intro z67 a w hz67 h
           (simp only [List.set_cons_zero, List.set_cons_succ] at h)
           refine wnil (c_then ?_)
           refine c_seq (c_region ?_)
           refine wv h (r_move h rfl) rfl ?_
           clear h a w; intro a w h
           refine wv h (r_bin h rfl rfl (B.add_i64 (by omega) (by omega))) rfl ?_
           clear h a w; intro a w h
           refine wv h (r_assign h rfl) rfl ?_
           clear h a w; intro a w h
           refine wnil (c_then ?_)
           refine c_exit ?_
           refine e_then ?_
           refine e_here ?_
           refine c_then ?_
           refine c_region ?_
           refine wv h (r_bin h rfl rfl (B.add_i64 (by omega) (by omega))) rfl ?_
           clear h a w; intro a w h
           refine wv h (r_move h rfl) rfl ?_
           clear h a w; intro a w h
           refine wnil ?_
           replace h := h.mem (fun q => (q.tail.front 1 rfl).tail)
           exact ⟨(i + 1, ch + 1, acc ++ numN (2 * d.length + 1) ++ d), h.keep [4, 5, 6, 22, 23, 24], ⟨ht2, by simp only; omega, by simp only [List.length_append]; omega, by rw [z4, prevP, if_neg (by omega), Nat.add_sub_cancel, hpi]⟩, by simp only; omega⟩
         ·
          refine c_skip ?_
          exact ⟨(), (h.keep [4, 5, 6, 8, 22, 23, 24]).drop 1, fun q => ht5 (by simpa [← hd] using q.2.2)⟩
       ·
        refine c_skip ?_
        exact ⟨(), h.keep [4, 5, 6, 8, 22, 23, 24], fun q => ht4 ⟨by
          rcases Nat.eq_zero_or_pos i with e | e
          · rw [e] at q; simp [prevP] at q
          · exact e, q.2.1⟩⟩
      ·
       clear h a w; intro z a w hz h
       rw [if_neg hz] at z4
       have hn2 := numN_len9 (2 * it.x.p.length) (by omega)
       refine c_seq (c_drawn 9 K.mixed rfl h ?_)
       clear h a w; intro a w h
       have hD : Paid s w [] := Paid.nil
       refine d_take0 (listed' := #[true, false, false, false, false, false, false, false, false]) h hD 0 (by as_aux_lemma => kernel_rfl) rfl (by as_aux_lemma => kernel_rfl) (by as_aux_lemma => kernel_rfl) (by as_aux_lemma => kernel_rfl) (fun _ _ _ _ hh => hh) (fun w h => by exact r_move h rfl) rfl ?_
       clear hD h a w; intro a w h hD
       refine d_take0 (listed' := #[true, true, false, false, false, false, false, false, false]) h hD 1 (by as_aux_lemma => kernel_rfl) rfl (by as_aux_lemma => kernel_rfl) (by as_aux_lemma => kernel_rfl) (by as_aux_lemma => kernel_rfl) (fun _ _ _ _ hh => hh) (fun w h => by exact r_fieldAddr h 32 rfl K.u_pack_item rfl K.sz_S_uint8 rfl rfl) rfl ?_
       clear hD h a w; intro a w h hD
       refine d_take (listed' := #[true, true, true, false, false, false, false, false, false]) h hD 2 ((Blk b8 (.cells ⟨cellsI it⟩ t_pack_item) :: OwnM 33 cellsI v11 its :: F)) (by as_aux_lemma => kernel_rfl) rfl (by as_aux_lemma => kernel_rfl) (by as_aux_lemma => kernel_rfl) (by as_aux_lemma => kernel_rfl) (fun _ _ _ _ hh => hh) (by exact h.2.drop 1) (fun w hw => by exact r_ldN (v := it.x.v) /- Views -/ ⟨h.1, hw⟩ rfl K.u_S_uint8 rfl 0 rfl hcx) rfl ?_
       clear hD h a w; intro a w h hD
       refine d_take (listed' := #[true, true, true, true, false, false, false, false, false]) h hD 3 (F) (by as_aux_lemma => kernel_rfl) rfl (by as_aux_lemma => kernel_rfl) (by as_aux_lemma => kernel_rfl) (by as_aux_lemma => kernel_rfl) (fun _ _ _ _ hh => hh) (by exact h.2.drop 3) (fun w hw => by exact r_lenB /- Views -/ ⟨h.1, hw⟩ rfl K.u_S_uint8 hxv) rfl ?_
       clear hD h a w; intro a w h hD
       refine d_take0 (listed' := #[true, true, true, true, true, false, false, false, false]) h hD 4 (by as_aux_lemma => kernel_rfl) rfl (by as_aux_lemma => kernel_rfl) (by as_aux_lemma => kernel_rfl) (by as_aux_lemma => kernel_rfl) (fun _ _ _ _ hh => hh) (fun w h => by exact r_bin h rfl rfl (B.mul_i64 (by omega) (by omega))) rfl ?_
       clear hD h a w; intro a w h hD
       rw [show (2 * (it.x.p.length : Int)) = ((2 * it.x.p.length : Nat) : Int) by omega] at h
       refine d_take0 (listed' := #[true, true, true, true, true, false, true, false, false]) h hD 6 (by as_aux_lemma => kernel_rfl) rfl (by as_aux_lemma => kernel_rfl) (by as_aux_lemma => kernel_rfl) (by as_aux_lemma => kernel_rfl) (fun _ _ _ _ hh => hh) (fun w h => by exact r_fieldAddr h 32 rfl K.u_pack_item rfl K.sz_S_uint8 rfl rfl) rfl ?_
       clear hD h a w; intro a w h hD
       refine d_take (listed' := #[true, true, true, true, true, false, true, true, false]) h hD 7 ((Blk b8 (.cells ⟨cellsI it⟩ t_pack_item) :: OwnM 33 cellsI v11 its :: F)) (by as_aux_lemma => kernel_rfl) rfl (by as_aux_lemma => kernel_rfl) (by as_aux_lemma => kernel_rfl) (by as_aux_lemma => kernel_rfl) (fun _ _ _ _ hh => hh) (by exact h.2.drop 1) (fun w hw => by exact r_ldN (v := it.x.v) /- Views -/ ⟨h.1, hw⟩ rfl K.u_S_uint8 rfl 0 rfl hcx) rfl ?_
       clear hD h a w; intro a w h hD
       refine d_only (listed' := #[true, true, true, true, true, true, true, true, false]) 5 [true, true, true] (by as_aux_lemma => kernel_rfl) rfl rfl (by as_aux_lemma => kernel_rfl) (by as_aux_lemma => kernel_rfl) ?_
       refine op_call h rfl K.go_digit_Pen_Num (pen_Num s _ b15 acc (2 * it.x.p.length) _ 0 rfl (by omega) (by omega) h.2) rfl ?_
       clear hD h a w; intro z75 a w hz75 h
       (simp only [List.set_cons_zero, List.set_cons_succ] at h)
       refine d_pay (Paid.cons (by exact h.2.drop 1) (Paid.cons (by exact h.2.drop 3) (Paid.cons (by exact h.2.drop 1) (Paid.nil)))) (fun hD => ?_)
       refine d_only (listed' := #[true, true, true, true, true, true, true, true, true]) 8 [false, true, true] (by as_aux_lemma => kernel_rfl) rfl rfl (by as_aux_lemma => kernel_rfl) (by as_aux_lemma => kernel_rfl) ?_
       refine op_call h rfl K.go_digit_Pen_Raw (pen_Raw s _ b15 it.x.v (acc ++ numN (2 * it.x.p.length)) it.x.p (PenI b15 (acc ++ numN (2 * it.x.p.length)) :: Blk b8 (.cells ⟨cellsI it⟩ t_pack_item) :: OwnM 33 cellsI v11 its :: F) 0 rfl (show ViewsB (Blk b8 (.cells ⟨cellsI it⟩ t_pack_item) :: OwnM 33 cellsI v11 its :: F) it.x.v it.x.p from (hxv.cons _).cons _) (by simp only [List.length_append]; omega) h.2) rfl ?_
       clear hD h a w; intro z78 a w hz78 h
       (simp only [List.set_cons_zero, List.set_cons_succ] at h)
       refine d_pay (Paid.cons (by exact h.2.drop 3) (Paid.cons (by exact h.2.drop 1) (Paid.nil))) (fun hD => ?_)
       refine d_done (by kernel_rfl) ?_
       clear hD
       refine c_then ?_
       refine c_region ?_
       refine wv h (r_assign h rfl) rfl ?_
       clear h a w; intro a w h
       refine wnil ?_
       refine b_normal ?_
       refine c_then ?_
       refine c_region ?_
       refine wv h (r_bin h rfl rfl (B.add_i64 (by omega) (by omega))) rfl ?_
       clear h a w; intro a w h
       refine wv h (r_move h rfl) rfl ?_
       clear h a w; intro a w h
       refine wnil ?_
       replace h := h.mem (fun q => (q.front 1 rfl).tail)
       exact ⟨(i + 1, 0, acc ++ numN (2 * it.x.p.length) ++ it.x.p), h.keep [4, 5, 6, 22, 23, 24], ⟨ht2, by simp only; omega, by simp only [List.length_append]; omega, by rw [z4, prevP, if_neg (by omega), Nat.add_sub_cancel, hpi]⟩, by simp only; omega⟩
    ·
     rw [List.drop_eq_nil_of_le (by omega), encG] at z4
     have e : encP ps = some (sealP acc) := by rw [encP, if_neg (by omega), z4]; rfl
     obtain ⟨pv, h2⟩ := PenI_open h.2
     replace h : St _ _ _ _ _ _ := ⟨h.1, h2⟩
     clear h2
     have hb32 : UInt32.ofInt ((crcN acc).toNat : Int) = crcN acc := by rw [← UInt32.toNat_inj, ofInt32]; have := (crcN acc).toNat_lt; omega
     have hf4 : (fourN (crcN acc)).length = 4 := rfl
     refine c_exit ?_
     refine e_then ?_
     refine e_then ?_
     refine e_here ?_
     refine c_then ?_
     refine c_seq (c_drawn 14 K.mixed rfl h ?_)
     clear h a w; intro a w h
     have hD : Paid s w [] := Paid.nil
     refine d_take0 (listed' := #[true, false, false, false, false, false, false, false, false, false, false, false, false, false]) h hD 0 (by as_aux_lemma => kernel_rfl) rfl (by as_aux_lemma => kernel_rfl) (by as_aux_lemma => kernel_rfl) (by as_aux_lemma => kernel_rfl) (fun _ _ _ _ hh => hh) (fun w h => by exact r_move h rfl) rfl ?_
     clear hD h a w; intro a w h hD
     refine d_take0 (listed' := #[true, true, false, false, false, false, false, false, false, false, false, false, false, false]) h hD 1 (by as_aux_lemma => kernel_rfl) rfl (by as_aux_lemma => kernel_rfl) (by as_aux_lemma => kernel_rfl) (by as_aux_lemma => kernel_rfl) (fun _ _ _ _ hh => hh) (fun w h => by exact r_nilCheck h rfl) rfl ?_
     clear hD h a w; intro a w h hD
     refine d_take0 (listed' := #[true, true, true, false, false, false, false, false, false, false, false, false, false, false]) h hD 2 (by as_aux_lemma => kernel_rfl) rfl (by as_aux_lemma => kernel_rfl) (by as_aux_lemma => kernel_rfl) (by as_aux_lemma => kernel_rfl) (fun _ _ _ _ hh => hh) (fun w h => by exact r_fieldAddr0 h rfl K.u_digit_Pen rfl K.sz_S_uint8 rfl rfl) rfl ?_
     clear hD h a w; intro a w h hD
     refine d_take (listed' := #[true, true, true, true, false, false, false, false, false, false, false, false, false, false]) h hD 3 _ (by as_aux_lemma => kernel_rfl) rfl (by as_aux_lemma => kernel_rfl) (by as_aux_lemma => kernel_rfl) (by as_aux_lemma => kernel_rfl) (fun _ _ _ _ hh => hh) h.2 (fun w hw => by exact r_ldN ⟨h.1, hw⟩ rfl K.u_S_uint8 rfl 0 rfl rfl) rfl ?_
     clear hD h a w; intro a w h hD
     refine d_take0 (listed' := #[true, true, true, true, true, false, false, false, false, false, false, false, false, false]) h hD 4 (by as_aux_lemma => kernel_rfl) rfl (by as_aux_lemma => kernel_rfl) (by as_aux_lemma => kernel_rfl) (by as_aux_lemma => kernel_rfl) (fun _ _ _ _ hh => hh) (fun w h => by exact r_move h rfl) rfl ?_
     clear hD h a w; intro a w h hD
     refine d_take0 (listed' := #[true, true, true, true, true, true, false, false, false, false, false, false, false, false]) h hD 5 (by as_aux_lemma => kernel_rfl) rfl (by as_aux_lemma => kernel_rfl) (by as_aux_lemma => kernel_rfl) (by as_aux_lemma => kernel_rfl) (fun _ _ _ _ hh => hh) (fun w h => by exact r_nilCheck h rfl) rfl ?_
     clear hD h a w; intro a w h hD
     refine d_take0 (listed' := #[true, true, true, true, true, true, true, false, false, false, false, false, false, false]) h hD 6 (by as_aux_lemma => kernel_rfl) rfl (by as_aux_lemma => kernel_rfl) (by as_aux_lemma => kernel_rfl) (by as_aux_lemma => kernel_rfl) (fun _ _ _ _ hh => hh) (fun w h => by exact r_fieldAddr0 h rfl K.u_digit_Pen rfl K.sz_S_uint8 rfl rfl) rfl ?_
     clear hD h a w; intro a w h hD
     refine d_take (listed' := #[true, true, true, true, true, true, true, true, false, false, false, false, false, false]) h hD 7 _ (by as_aux_lemma => kernel_rfl) rfl (by as_aux_lemma => kernel_rfl) (by as_aux_lemma => kernel_rfl) (by as_aux_lemma => kernel_rfl) (fun _ _ _ _ hh => hh) h.2 (fun w hw => by exact r_ldN ⟨h.1, hw⟩ rfl K.u_S_uint8 rfl 0 rfl rfl) rfl ?_
     clear hD h a w; intro a w h hD
     refine d_only (listed' := #[true, true, true, true, true, true, true, true, true, false, false, false, false, false]) 8 [false, true] (by as_aux_lemma => kernel_rfl) rfl rfl (by as_aux_lemma => kernel_rfl) (by as_aux_lemma => kernel_rfl) ?_
     refine op_call h rfl K.go_check_Of (check_of s _ pv acc _ (((hC.cons _).cons _).cons _) (Views.own 1 rfl) h.2) rfl ?_
     clear hD h a w; intro x a w hx h
     refine d_pay (Paid.cons (by exact h.2) (Paid.nil)) (fun hD => ?_)
     refine d_take0 (listed' := #[true, true, true, true, true, true, true, true, true, true, false, false, false, false]) h hD 9 (by as_aux_lemma => kernel_rfl) rfl (by as_aux_lemma => kernel_rfl) (by as_aux_lemma => kernel_rfl) (by as_aux_lemma => kernel_rfl) (fun _ _ _ _ hh => hh) (fun w h => by exact r_conv h rfl K.u_uint32 K.u_int (C.i64_u32) ) rfl ?_
     clear hD h a w; intro a w h hD
     refine d_only (listed' := #[true, true, true, true, true, true, true, true, true, true, true, false, false, false]) 10 [true] (by as_aux_lemma => kernel_rfl) rfl rfl (by as_aux_lemma => kernel_rfl) (by as_aux_lemma => kernel_rfl) ?_
     refine op_call h rfl K.go_check_Four (check_four s _ ((crcN acc).toNat : Int) _ h.2) rfl ?_
     clear hD h a w; intro v90 a w hz90 h
     rw [hb32] at h
     refine d_pay (Paid.cons (by exact h.2.drop 1) (Paid.nil)) (fun hD => ?_)
     refine d_only (listed' := #[true, true, true, true, true, true, true, true, true, true, true, true, false, false]) 11 [false] (by as_aux_lemma => kernel_rfl) rfl rfl (by as_aux_lemma => kernel_rfl) (by as_aux_lemma => kernel_rfl) ?_
     refine op_appendbs h rfl rfl K.u_S_uint8 K.sz_uint8 K.z_uint8 rfl rfl 2 rfl (Src.bytes K.u_S_uint8 (by exact ViewsB.own 0 rfl) h.2) (by omega) rfl ?_
     clear hD h a w; intro v91 a w h
     (simp only [List.set_cons_zero, List.set_cons_succ] at h)
     refine d_pay (Paid.nil) (fun hD => ?_)
     refine d_take0 (listed' := #[true, true, true, true, true, true, true, true, true, true, true, true, true, false]) h hD 12 (by as_aux_lemma => kernel_rfl) rfl (by as_aux_lemma => kernel_rfl) (by as_aux_lemma => kernel_rfl) (by as_aux_lemma => kernel_rfl) (fun _ _ _ _ hh => hh) (fun w h => by exact r_assign h rfl) rfl ?_
     clear hD h a w; intro a w h hD
     refine d_take0 (listed' := #[true, true, true, true, true, true, true, true, true, true, true, true, true, true]) h hD 13 (by as_aux_lemma => kernel_rfl) rfl (by as_aux_lemma => kernel_rfl) (by as_aux_lemma => kernel_rfl) (by as_aux_lemma => kernel_rfl) (fun _ _ _ _ hh => hh) (fun w h => by exact r_assign h rfl) rfl ?_
     clear hD h a w; intro a w h hD
     refine d_done (by kernel_rfl) ?_
     clear hD
     refine c_then ?_
     refine c_ret ?_
     exact ret2 h rfl rfl rfl ⟨v91, by rw [e]; rfl, by rw [e]; exact ((h.2.tail.tail.front 1 rfl).tail), trivial⟩
end Go.Proofs.K

/- The contracts of the document's numbers and texts. -/
namespace Go.Proofs.K
open Go.Sl

theorem ref_num (s w : World) (m : Nat) (F : List HItem) (hm : m < 9223372036854775808) (hs : Sat s w F) :
    Calls P n_ref01_Num #[.int .i64 (m : Int)] w (Ret s (fun v : Value => v) (fun v => OwnB v (numN m) :: F) (fun _ => True)) := by
  have hnl := numN_len9 m (by omega)
  refine enter K.fn_ref01_Num rfl K.nt_ref01_Num rfl hs ?_
  clear hs w; intro a w h
  refine c_seq (c_region ?_)
  refine wv h (r_assign h rfl) rfl ?_
  clear h a w; intro a w h
  refine wnil (c_then ?_)
  refine c_seq (c_region ?_)
  refine wv h (r_assign h rfl) rfl ?_
  clear h a w; intro a w h
  replace h := h.addNilb
  refine wnil (c_then ?_)
  refine c_seq ?_
  refine c_block ?_
  refine c_loop (X := Nat × Value × List UInt8) (fun x => [(0, .int .i64 (x.1 : Int)), (3, x.2.1)]) (fun x => OwnB x.2.1 x.2.2 :: F)
    (fun x => x.2.2 ++ numN x.1 = numN m ∧ x.1 ≤ m) (fun x => x.1) (m, .slice none 0 0, []) (h.keep [0, 3]) ⟨by simp, by omega⟩ ?_
  clear h a w; intro x a w hx h
  obtain ⟨u, vv, l'⟩ := x
  obtain ⟨hx1, hx2⟩ := hx
  simp only at h hx1 hx2
  have hlen := congrArg List.length hx1
  simp only [List.length_append] at hlen
  have hp := numN_len_pos u
  as_aux_lemma =>
   refine c_seq ?_
   refine c_seq (c_region ?_)
   refine wv h (r_move h rfl) rfl ?_
   clear h a w; intro a w h
   refine wv h (r_bin h rfl rfl (B.geq_int)) rfl ?_
   clear h a w; intro a w h
   refine wnil (c_then ?_)
   refine c_condD h rfl (fun ht1 => ?_) (fun ht1 => ?_)
   ·
    have ht' : ¬ u < 128 := by omega
    rw [numN, dif_neg ht'] at hx1
    refine c_skip ?_
    refine c_then ?_
    refine c_block ?_
    refine c_seq (c_region ?_)
    refine wv h (r_move h rfl) rfl ?_
    clear h a w; intro a w h
    refine wv h (r_move h rfl) rfl ?_
    clear h a w; intro a w h
    refine wv h (r_bin h rfl rfl (B.rem_i64 (by omega) (by omega))) rfl ?_
    clear h a w; intro a w h
    refine wv h (r_conv h rfl K.u_int K.u_uint8 (C.u8_i64) ) rfl ?_
    clear h a w; intro a w h
    refine wl rfl (op_buildSlice h K.u_S_uint8 K.sz_uint8 K.z_uint8 rfl rfl rfl rfl rfl (by simp [Value.cells, bv, w32, w64, sv]) rfl ?_)
    clear h a w; intro b1 a w h
    refine wl rfl (op_appendb h rfl rfl K.u_S_uint8 K.sz_uint8 K.z_uint8 rfl rfl 0 rfl (by omega) rfl ?_)
    clear h a w; intro v2 a w h
    refine wv h (r_assign h rfl) rfl ?_
    clear h a w; intro a w h
    refine wnil (c_then ?_)
    refine c_region ?_
    refine wv h (r_move h rfl) rfl ?_
    clear h a w; intro a w h
    refine wv h (r_bin h rfl rfl (B.quo_i64 (by omega) (by omega) (by omega))) rfl ?_
    clear h a w; intro a w h
    refine wv h (r_assign h rfl) rfl ?_
    clear h a w; intro a w h
    refine wnil ?_
    refine b_normal ?_
    refine ⟨(u / 128, v2, l' ++ [UInt8.ofInt ((u : Int) % 128)]), h.keep [0, 3], ⟨?_, ?_⟩, ?_⟩
    · have e : UInt8.ofInt ((u : Int) % 128) = UInt8.ofNat (u % 128) := by
        apply UInt8.toNat_inj.1; simp [UInt8.ofInt, UInt8.toNat_ofNat']; omega
      show (l' ++ [UInt8.ofInt ((u : Int) % 128)]) ++ numN (u / 128) = _
      rw [e, ← hx1]; simp
    · show u / 128 ≤ m; omega
    · show u / 128 < u; omega
   ·
    have ht' : u < 128 := by omega
    rw [numN, dif_pos ht'] at hx1
    refine c_exit ?_
    refine e_then ?_
    refine e_then ?_
    refine e_here ?_
    refine c_then ?_
    refine c_seq (c_region ?_)
    refine wv h (r_move h rfl) rfl ?_
    clear h a w; intro a w h
    refine wv h (r_move h rfl) rfl ?_
    clear h a w; intro a w h
    refine wv h (r_conv h rfl K.u_int K.u_uint8 (C.u8_i64) ) rfl ?_
    clear h a w; intro a w h
    refine wv h (r_bin h rfl rfl (B.add_u8 (y := 128))) rfl ?_
    clear h a w; intro a w h
    refine wl rfl (op_buildSlice h K.u_S_uint8 K.sz_uint8 K.z_uint8 rfl rfl rfl rfl rfl (by simp [Value.cells, bv, w32, w64, sv]) rfl ?_)
    clear h a w; intro b1 a w h
    refine wl rfl (op_appendb h rfl rfl K.u_S_uint8 K.sz_uint8 K.z_uint8 rfl rfl 0 rfl (by omega) rfl ?_)
    clear h a w; intro v2 a w h
    refine wv h (r_assign h rfl) rfl ?_
    clear h a w; intro a w h
    refine wnil (c_then ?_)
    refine c_ret ?_
    refine ret1 h rfl rfl ⟨v2, rfl, ?_, trivial⟩
    have e : UInt8.ofInt (u : Int) + 128 = UInt8.ofNat (u + 128) := by
      apply UInt8.toNat_inj.1; simp [UInt8.ofInt, UInt8.toNat_ofNat']; omega
    have h2 := h.2
    rw [e] at h2
    simp only [List.set_cons_zero] at h2
    rw [hx1] at h2
    exact h2
end Go.Proofs.K

/- Eyes, looked at from behind: what was taken stood there. -/
namespace Go.Sl

theorem eyeRaw_back {st : Int × List UInt8} {n : Int} (h : (eyeRaw st n).2.1 = 0) : st.1 = 0 ∧ st.2 = (eyeRaw st n).1 ++ (eyeRaw st n).2.2 := by
  unfold eyeRaw at h ⊢
  by_cases h1 : st.1 ≠ 0 ∨ n ≤ 0
  · rw [if_pos h1] at h ⊢; exact ⟨h, rfl⟩
  · rw [if_neg h1] at h ⊢
    by_cases h2 : (st.2.length : Int) < n
    · rw [if_pos h2] at h; cases h
    · rw [if_neg h2]; exact ⟨Decidable.not_not.1 (fun q => h1 (.inl q)), (List.take_append_drop _ _).symm⟩
theorem eyeRaw_length {st : Int × List UInt8} {n : Int} (h : (eyeRaw st n).2.1 = 0) (h0 : 0 ≤ n) : ((eyeRaw st n).1.length : Int) = n := by
  have hb := (eyeRaw_back h).1
  unfold eyeRaw at h ⊢
  by_cases h1 : st.1 ≠ 0 ∨ n ≤ 0
  · rw [if_pos h1]; rcases h1 with h1 | h1
    · exact absurd hb h1
    · simp; omega
  · rw [if_neg h1] at h ⊢
    by_cases h2 : (st.2.length : Int) < n
    · rw [if_pos h2] at h; cases h
    · rw [if_neg h2]; simp; omega
theorem numN_one {b : UInt8} (h : ¬ b < 128) : numN (b.toNat % 128) = [b] := by
  have hb := b.toNat_lt
  have h2 : 128 ≤ b.toNat := by
    rw [UInt8.lt_iff_toNat_lt] at h; simpa using h
  rw [numN, dif_pos (by omega), show b.toNat % 128 + 128 = b.toNat by omega]
  simp
theorem numN_more {b : UInt8} (h : b < 128) {m : Nat} (hm : m ≠ 0) : numN (b.toNat % 128 + m * 128) = b :: numN m := by
  have h2 : b.toNat < 128 := by
    rw [UInt8.lt_iff_toNat_lt] at h; simpa using h
  rw [numN, dif_neg (by omega), show (b.toNat % 128 + m * 128) % 128 = b.toNat by omega, show (b.toNat % 128 + m * 128) / 128 = m by omega]
  simp
theorem getN_back (most : Int) : ∀ (l : List UInt8) (i u : Nat), (getN l i u most).2.1 = 0 → ∃ m : Nat, (getN l i u most).1 = ((u + m * 128 ^ i : Nat) : Int) ∧ l = numN m ++ (getN l i u most).2.2 ∧ (0 < i → m ≠ 0)
  | [], i, u, h => by simp [getN] at h
  | b :: r, i, u, h => by
    rw [getN] at h ⊢
    by_cases h1 : i = 9 ∨ (b = 128 ∧ 0 < i)
    · rw [if_pos h1] at h; cases h
    · rw [if_neg h1] at h ⊢
      by_cases h2 : b < 128
      · rw [if_pos h2] at h ⊢
        obtain ⟨m, e1, e2, e3⟩ := getN_back most r (i + 1) _ h
        have hm := e3 (by omega)
        refine ⟨b.toNat % 128 + m * 128, ?_, ?_, fun _ => by omega⟩
        · rw [e1]; congr 1; rw [Nat.pow_succ, Nat.add_mul, Nat.add_assoc, Nat.mul_assoc m 128, Nat.mul_comm 128]
        · rw [numN_more h2 hm, List.cons_append, ← e2]
      · rw [if_neg h2] at h ⊢
        by_cases h3 : max most 0 < ((u + b.toNat % 128 * 128 ^ i : Nat) : Int)
        · rw [if_pos h3] at h; cases h
        · rw [if_neg h3]
          refine ⟨b.toNat % 128, rfl, by rw [numN_one h2]; rfl, fun hi hm => h1 (.inr ⟨?_, hi⟩)⟩
          have hb := b.toNat_lt
          have h4 : 128 ≤ b.toNat := by
            rw [UInt8.lt_iff_toNat_lt] at h2; simpa using h2
          apply UInt8.toNat_inj.1
          show b.toNat = 128
          omega
theorem eyeNum_back {st : Int × List UInt8} {most : Int} (h : (eyeNum st most).2.1 = 0) : st.1 = 0 ∧ st.2 = numN (eyeNum st most).1.toNat ++ (eyeNum st most).2.2 ∧ 0 ≤ (eyeNum st most).1 := by
  unfold eyeNum at h ⊢
  by_cases h1 : st.1 = 0
  · rw [if_pos h1] at h ⊢
    obtain ⟨m, e1, e2, _⟩ := getN_back most _ 0 0 h
    refine ⟨h1, ?_, by rw [e1]; omega⟩
    rw [e1, show ((0 + m * 128 ^ 0 : Nat) : Int).toNat = m by simp]
    exact e2
  · rw [if_neg h1] at h; exact absurd h h1
theorem eyeText_back {st : Int × List UInt8} {most : Int} (h : (eyeText st most).2.1 = 0) : st.1 = 0 ∧ st.2 = (numN (eyeText st most).1.length ++ (eyeText st most).1) ++ (eyeText st most).2.2 := by
  unfold eyeText at h ⊢
  obtain ⟨h1, h2⟩ := eyeRaw_back h
  obtain ⟨h3, h4, h5⟩ := eyeNum_back h1
  have h6 := eyeRaw_length h h5
  refine ⟨h3, ?_⟩
  rw [List.append_assoc, ← h2, show (eyeRaw (eyeNum st most).2 (eyeNum st most).1).1.length = (eyeNum st most).1.toNat by omega]
  exact h4
theorem eyeEnd_back {st : Int × List UInt8} (h : eyeEnd st = 0) : st.1 = 0 ∧ st.2 = [] := by
  unfold eyeEnd at h
  by_cases h1 : st.1 = 0 ∧ 0 < st.2.length
  · rw [if_pos h1] at h; cases h
  · rw [if_neg h1] at h
    exact ⟨h, List.eq_nil_of_length_eq_zero (by omega)⟩
end Go.Sl

/- Commits' bytes, and back: plain facts. -/
namespace Go.Sl

theorem eyeRaw_enc (x r : List UInt8) (n : Int) (h : (x.length : Int) = n) : eyeRaw (0, x ++ r) n = (x, (0, r)) := by
  unfold eyeRaw
  by_cases h0 : n ≤ 0
  · have : x = [] := List.eq_nil_of_length_eq_zero (by omega)
    subst this
    rw [if_pos (.inr h0)]; rfl
  · rw [if_neg (by rintro (q | q); exact q rfl; exact h0 q), if_neg (by simp; omega)]
    have : n.toNat = x.length := by omega
    rw [this]; simp
theorem keyN_enc (k : K32) (r : List UInt8) : keyN (0, k.val ++ r) = (k, (0, r)) := by
  rw [keyN, eyeRaw_enc k.val r 32 (by rw [k.len]; rfl)]
  exact Prod.ext (BA.ext' (BA.of_val k.len)) rfl
theorem keysN_enc : ∀ (l : List K32) (r : List UInt8), keysN l.length (0, keys l ++ r) = (l, (0, r))
  | [], r => rfl
  | k :: l, r => by
    have e : keys (k :: l) ++ r = k.val ++ (keys l ++ r) := by simp [keys]
    rw [List.length_cons, keysN, e, keyN_enc, keysN_enc l r]
theorem dec_enc (c : Cm) (h : rightC c = true) : okD (encC c) = true ∧ decC (encC c) = c := by
  obtain ⟨h1, h2⟩ : c.parents.length ≤ 2 ∧ c.note.length ≤ 30 := by
    have := h
    simp only [rightC, Bool.and_eq_true, decide_eq_true_eq] at this; exact this.1
  have e0 : encC c = [75, 49] ++ (c.chart.val ++ (numN c.parents.length ++ (keys c.parents ++ ((numN c.note.length ++ c.note) ++ [])))) := by simp [encC]
  have e1 : eyeRaw (0, encC c) 2 = ([75, 49], (0, c.chart.val ++ (numN c.parents.length ++ (keys c.parents ++ ((numN c.note.length ++ c.note) ++ []))))) := by
    rw [e0]; exact eyeRaw_enc _ _ _ rfl
  have e2 : decB (eyeRaw (0, encC c) 2).2 = (c, (0, [])) := by
    rw [e1]
    simp only [decB]
    rw [keyN_enc, eyeNum_numN _ _ _ (by omega), if_neg (by omega)]
    simp only [Int.toNat_natCast]
    rw [keysN_enc, eyeText_enc _ _ _ (by omega) (by omega), if_neg (by omega)]
  have e3 : okD (encC c) = true := by
    rw [okD, e2, e1]; simp [h, eyeEnd]
  exact ⟨e3, by rw [decC, e3, if_pos rfl, e2]⟩

theorem keyN_back {st : Int × List UInt8} (h : (keyN st).2.1 = 0) : st.1 = 0 ∧ st.2 = (keyN st).1.val ++ (keyN st).2.2 := by
  have h' : (eyeRaw st 32).2.1 = 0 := h
  obtain ⟨h1, h2⟩ := eyeRaw_back h'
  have h3 := eyeRaw_length h' (by omega)
  refine ⟨h1, ?_⟩
  show st.2 = (BA.of 32 (eyeRaw st 32).1).val ++ (eyeRaw st 32).2.2
  rw [BA.of_val (by omega)]
  exact h2
theorem keysN_back : ∀ (n : Nat) {st : Int × List UInt8}, (keysN n st).2.1 = 0 → st.1 = 0 ∧ st.2 = keys (keysN n st).1 ++ (keysN n st).2.2
  | 0, st, h => ⟨h, by simp [keysN, keys]⟩
  | n + 1, st, h => by
    obtain ⟨h1, h2⟩ := keysN_back n (st := (keyN st).2) h
    obtain ⟨h3, h4⟩ := keyN_back h1
    refine ⟨h3, ?_⟩
    rw [h4, h2, keysN]
    simp [keys]
theorem enc_dec {p : List UInt8} (h : okD p = true) : encC (decC p) = p ∧ rightC (decC p) = true := by
  have hd : decC p = (decB (eyeRaw (0, p) 2).2).1 := by rw [decC, if_pos h]
  simp only [okD, Bool.and_eq_true, decide_eq_true_eq] at h
  obtain ⟨hm, he, hr⟩ := h
  rw [hd]
  refine ⟨?_, hr⟩
  obtain ⟨h1, h2⟩ := eyeEnd_back he
  generalize hst : (eyeRaw (0, p) 2).2 = st1 at *
  obtain ⟨h3, h4⟩ := eyeText_back (st := (keysN (eyeNum (keyN st1).2 2).1.toNat (eyeNum (keyN st1).2 2).2).2) (most := 30) h1
  obtain ⟨h5, h6⟩ := keysN_back _ h3
  obtain ⟨h7, h8, h9⟩ := eyeNum_back h5
  obtain ⟨h10, h11⟩ := keyN_back h7
  have h12 := eyeRaw_back (st := (0, p)) (n := 2) (by rw [hst]; exact h10)
  have hl := (keysN_len (eyeNum (keyN st1).2 2).1.toNat (eyeNum (keyN st1).2 2).2).2
  have hb : (decB st1).2.2 = (eyeText (keysN (eyeNum (keyN st1).2 2).1.toNat (eyeNum (keyN st1).2 2).2).2 30).2.2 := rfl
  have h13 := h12.2
  rw [hm, hst] at h13
  show [75, 49] ++ (keyN st1).1.val ++ numN (keysN (eyeNum (keyN st1).2 2).1.toNat (eyeNum (keyN st1).2 2).2).1.length ++ keys (keysN (eyeNum (keyN st1).2 2).1.toNat (eyeNum (keyN st1).2 2).2).1 ++ (numN (eyeText (keysN (eyeNum (keyN st1).2 2).1.toNat (eyeNum (keyN st1).2 2).2).2 30).1.length ++ (eyeText (keysN (eyeNum (keyN st1).2 2).1.toNat (eyeNum (keyN st1).2 2).2).2 30).1) = p
  rw [hl]
  conv => rhs; rw [show p = (0, p).2 from rfl, h13, h11, h8, h6, h4, ← hb, h2]
  simp
theorem encC_inj {c d : Cm} (hc : rightC c = true) (hd : rightC d = true) (h : encC c = encC d) : c = d := by
  have h1 := (dec_enc c hc).2
  rw [h, (dec_enc d hd).2] at h1
  exact h1.symm
theorem encC_len (c : Cm) (h : rightC c = true) : (encC c).length ≤ 1000 := by
  obtain ⟨h1, h2⟩ : c.parents.length ≤ 2 ∧ c.note.length ≤ 30 := by
    have := h
    simp only [rightC, Bool.and_eq_true, decide_eq_true_eq] at this; exact this.1
  have h3 := numN_len9 c.parents.length (by omega)
  have h4 := numN_len9 c.note.length (by omega)
  simp only [encC, List.length_append, List.length_cons, List.length_nil, BA.len', keys_len]
  omega
end Go.Sl

/- The reference's piece, and bytes.Equal. -/
namespace Go.Proofs.K
open Go.Sl
attribute [local irreducible] Go.Sl.Own Go.Sl.Blk Go.Sl.Sep Go.Sl.Ex Go.Sl.Fact

theorem bytes_Equal (s w : World) (pv qv : Value) (l m : List UInt8) (F : List HItem) (hp : ViewsB F pv l) (hq : ViewsB F qv m) (hs : Sat s w F) :
    Calls P n_bytes_Equal #[pv, qv] w (Ret s (fun _ : Unit => .bool (decide (l = m))) (fun _ => F) (fun _ => True)) := by
  refine enter K.fn_bytes_Equal rfl K.nt_bytes_Equal rfl hs ?_
  clear hs w; intro a w h
  refine c_seq (c_region ?_)
  refine wv h (r_assign h rfl) rfl ?_
  clear h a w; intro a w h
  refine wnil (c_then ?_)
  refine c_seq (c_region ?_)
  refine wv h (r_move h rfl) rfl ?_
  clear h a w; intro a w h
  refine wv h (r_b2sb h rfl K.u_S_uint8 K.u_uint8 K.u_string (by assumption)) rfl ?_
  clear h a w; intro a w h
  refine wv h (r_move h rfl) rfl ?_
  clear h a w; intro a w h
  refine wv h (r_b2sb h rfl K.u_S_uint8 K.u_uint8 K.u_string (by assumption)) rfl ?_
  clear h a w; intro a w h
  refine wv h (r_streq h rfl rfl) rfl ?_
  clear h a w; intro a w h
  refine wv h (r_assign h rfl) rfl ?_
  clear h a w; intro a w h
  refine wnil (c_then ?_)
  refine c_ret ?_
  exact ret1 h rfl rfl ⟨(), rfl, h.2, trivial⟩

theorem piece_hit {base p : List UInt8} {i n : Nat} (h1 : i + n ≤ base.length) (h2 : n ≤ p.length) : (base.drop i).take (i + n - i) = (p.drop 0).take (n - 0) ↔ n ≤ lcp (base.drop i) p := by
  rw [lcp_take, List.length_drop, Nat.add_sub_cancel_left, List.drop_zero, Nat.sub_zero]
  exact ⟨fun e => ⟨e, by omega, h2⟩, fun e => e.1⟩

theorem ref_piece (s w : World) (bw pv : Value) (base p : List UInt8) (F : List HItem) (hb : ViewsB F bw base) (hp : ViewsB F pv p) (hbl : base.length ≤ 1000000) (hpl : p.length ≤ 1000000) (hs : Sat s w F) :
    Calls P n_ref15_piece #[bw, pv] w (Ret s (fun _ : Unit => .tuple #[.int .i64 ((longN base p).1 : Int), .int .i64 ((longN base p).2 : Int)]) (fun _ => F) (fun _ => True)) := by
  refine enter K.fn_ref15_piece rfl K.nt_ref15_piece rfl hs ?_
  clear hs w; intro a w h
  refine c_seq (c_region ?_)
  refine wv h (r_assign h rfl) rfl ?_
  clear h a w; intro a w h
  refine wv h (r_assign h rfl) rfl ?_
  clear h a w; intro a w h
  refine wnil (c_then ?_)
  refine c_seq ?_
  refine c_seq (c_region ?_)
  refine wv h (r_move h rfl) rfl ?_
  clear h a w; intro a w h
  refine wv h (r_lenB h rfl K.u_S_uint8 (by assumption)) rfl ?_
  clear h a w; intro a w h
  refine wv h (r_assign h rfl) rfl ?_
  clear h a w; intro a w h
  refine wnil (c_then ?_)
  refine c_block ?_
  refine c_loopX h (X := Nat) (fun n => [(0, bw), (1, pv), (6, .int .i64 (n : Int))]) (fun _ => F) (fun n => n ≤ p.length ∧ ∀ k, lcp (base.drop k) p ≤ n) (fun n => n) p.length (h.keep [0, 1, 6]) ⟨Nat.le_refl _, fun k => (lcp_le _ _).2⟩ ?_
  clear h a w; intro n a w hx h
  obtain ⟨hx1, hx2⟩ := hx
  as_aux_lemma =>
   refine c_seq ?_
   refine c_seq (c_region ?_)
   refine wv h (r_move h rfl) rfl ?_
   clear h a w; intro a w h
   refine wv h (r_bin h rfl rfl (B.gtr_int)) rfl ?_
   clear h a w; intro a w h
   refine wnil (c_then ?_)
   refine c_condD h rfl (fun ht1 => ?_) (fun ht1 => ?_)
   ·
    refine c_skip ?_
    refine c_then ?_
    refine c_seq ?_
    refine c_block ?_
    refine c_seq (c_region ?_)
    refine wv h (r_assign h rfl) rfl ?_
    clear h a w; intro a w h
    refine wnil (c_then ?_)
    refine c_block ?_
    refine c_loopX h (X := Nat) (fun i => [(0, bw), (1, pv), (6, .int .i64 (n : Int)), (7, .int .i64 (i : Int))]) (fun _ => F) (fun i => i ≤ base.length ∧ ∀ k < i, lcp (base.drop k) p < n) (fun i => base.length - i) 0 (h.keep [0, 1, 6, 7]) ⟨Nat.zero_le _, fun k hk => absurd hk (Nat.not_lt_zero k)⟩ ?_
    clear h a w; intro i a w hi h
    obtain ⟨hi1, hi2⟩ := hi
    as_aux_lemma =>
     refine c_seq ?_
     refine c_seq (c_region ?_)
     refine wv h (r_move h rfl) rfl ?_
     clear h a w; intro a w h
     refine wv h (r_move h rfl) rfl ?_
     clear h a w; intro a w h
     refine wv h (r_bin h rfl rfl (B.add_i64 (by omega) (by omega))) rfl ?_
     clear h a w; intro a w h
     rw [show (i : Int) + (n : Int) = ((i + n : Nat) : Int) by omega] at h
     refine wv h (r_move h rfl) rfl ?_
     clear h a w; intro a w h
     refine wv h (r_lenB h rfl K.u_S_uint8 (by assumption)) rfl ?_
     clear h a w; intro a w h
     refine wv h (r_bin h rfl rfl (B.leq_int)) rfl ?_
     clear h a w; intro a w h
     refine wnil (c_then ?_)
     refine c_condD h rfl (fun ht2 => ?_) (fun ht2 => ?_)
     ·
      have hin : i + n ≤ base.length := by omega
      have hit := piece_hit (p := p) hin hx1
      refine c_skip ?_
      refine c_then ?_
      refine c_seq ?_
      refine c_block ?_
      refine c_seq (c_draw K.mixed (by kernel_rfl) h ?_)
      clear h a w; intro a hE
      refine qv hE (fun w hw => r_move ⟨hE, hw⟩ rfl) rfl ?_
      clear hE a; intro a hE
      refine qv hE (fun w hw => r_move ⟨hE, hw⟩ rfl) rfl ?_
      clear hE a; intro a hE
      refine qv hE (fun w hw => r_move ⟨hE, hw⟩ rfl) rfl ?_
      clear hE a; intro a hE
      refine qv hE (fun w hw => r_move ⟨hE, hw⟩ rfl) rfl ?_
      clear hE a; intro a hE
      refine qv hE (fun w hw => r_bin ⟨hE, hw⟩ rfl rfl (B.add_i64 (by omega) (by omega))) rfl ?_
      clear hE a; intro a hE
      rw [show (i : Int) + (n : Int) = ((i + n : Nat) : Int) by omega] at hE
      refine qv hE (fun w hw => r_sliceB ⟨hE, hw⟩ rfl K.u_S_uint8 K.sz_uint8 hb i (i + n) ⟨_, rfl⟩ ⟨_, rfl⟩ (by omega) hin) rfl ?_
      clear hE a; intro a hE
      refine qv hE (fun w hw => r_b2sb ⟨hE, hw⟩ rfl K.u_S_uint8 K.u_uint8 K.u_string (by exact ViewsB.sub (by assumption) (by omega) (by omega))) rfl ?_
      clear hE a; intro a hE
      refine qv hE (fun w hw => r_move ⟨hE, hw⟩ rfl) rfl ?_
      clear hE a; intro a hE
      refine qv hE (fun w hw => r_move ⟨hE, hw⟩ rfl) rfl ?_
      clear hE a; intro a hE
      refine qv hE (fun w hw => r_sliceB ⟨hE, hw⟩ rfl K.u_S_uint8 K.sz_uint8 hp 0 n rfl ⟨_, rfl⟩ (by omega) hx1) rfl ?_
      clear hE a; intro a hE
      refine qv hE (fun w hw => r_b2sb ⟨hE, hw⟩ rfl K.u_S_uint8 K.u_uint8 K.u_string (by exact ViewsB.sub (by assumption) (by omega) (by omega))) rfl ?_
      clear hE a; intro a hE
      refine qv hE (fun w hw => r_streq ⟨hE, hw⟩ rfl rfl) rfl ?_
      clear hE a; intro a hE
      refine qnil hE ?_
      clear hE a; intro a w h
      refine c_then ?_
      refine c_condD h rfl (fun ht3 => ?_) (fun ht3 => ?_)
      ·
       have hl := longN_eq (by omega) (hit.1 ht3) hi2 hx2
       as_aux_lemma =>
        refine c_seq (c_region ?_)
        refine wv h (r_move h rfl) rfl ?_
        clear h a w; intro a w h
        refine wv h (r_move h rfl) rfl ?_
        clear h a w; intro a w h
        refine wv h (r_assign h rfl) rfl ?_
        clear h a w; intro a w h
        refine wv h (r_assign h rfl) rfl ?_
        clear h a w; intro a w h
        refine wnil (c_then ?_)
        refine c_ret ?_
        exact ret2 h rfl rfl rfl ⟨(), by rw [hl], h.2, trivial⟩
      ·
       refine c_skip ?_
       refine b_normal ?_
       refine c_then ?_
       refine c_region ?_
       refine wv h (r_move h rfl) rfl ?_
       clear h a w; intro a w h
       refine wv h (r_bin h rfl rfl (B.add_i64 (by omega) (by omega))) rfl ?_
       clear h a w; intro a w h
       refine wv h (r_assign h rfl) rfl ?_
       clear h a w; intro a w h
       refine wnil ?_
       refine ⟨i + 1, h.keep [0, 1, 6, 7], ⟨by omega, fun k hk => ?_⟩, by show base.length - (i + 1) < base.length - i; omega⟩
       rcases Nat.lt_or_eq_of_le (Nat.lt_succ_iff.1 hk) with q | rfl
       · exact hi2 k q
       · exact Nat.not_le.1 fun q => ht3 (hit.2 q)
     ·
      refine c_exit ?_
      refine e_then ?_
      refine e_then ?_
      refine e_here ?_
      refine b_normal ?_
      refine c_then ?_
      refine c_region ?_
      refine wv h (r_move h rfl) rfl ?_
      clear h a w; intro a w h
      refine wv h (r_bin h rfl rfl (B.sub_i64 (by omega) (by omega))) rfl ?_
      clear h a w; intro a w h
      refine wv h (r_assign h rfl) rfl ?_
      clear h a w; intro a w h
      refine wnil ?_
      rw [show (n : Int) - 1 = ((n - 1 : Nat) : Int) by omega] at h
      refine ⟨n - 1, h.keep [0, 1, 6], ⟨by omega, fun k => ?_⟩, by show n - 1 < n; omega⟩
      have : lcp (base.drop k) p < n := by
        by_cases q : k < i
        · exact hi2 k q
        · have := (lcp_le (base.drop k) p).1
          rw [List.length_drop] at this; omega
      omega
   ·
    obtain rfl : n = 0 := by omega
    have hl := longN_none (base := base) (p := p) fun k => by have := hx2 k; omega
    refine c_exit ?_
    refine e_then ?_
    refine e_then ?_
    refine e_here ?_
    refine c_then ?_
    refine c_seq (c_region ?_)
    refine wv h (r_assign h rfl) rfl ?_
    clear h a w; intro a w h
    refine wv h (r_assign h rfl) rfl ?_
    clear h a w; intro a w h
    refine wnil (c_then ?_)
    refine c_ret ?_
    exact ret2 h rfl rfl rfl ⟨(), by rw [hl]; rfl, h.2, trivial⟩
end Go.Proofs.K

/- The reference's delta. -/
namespace Go.Proofs.K
open Go.Sl
attribute [local irreducible] Go.Sl.Own Go.Sl.Blk Go.Sl.Sep Go.Sl.Ex Go.Sl.Fact

theorem tell_end2 {s w : World} {N A C : HItem} {F : List HItem} (h : Sat s w (N :: A :: C :: F)) : Sat s w (A :: N :: F) :=
  ((h.perm (List.perm_middle (l₁ := [N, A]))).drop 1).perm (.swap _ _ _)

theorem ref_Delta (s w : World) (bw pv : Value) (base p : List UInt8) (F : List HItem) (hb : ViewsB F bw base) (hp : ViewsB F pv p) (hbl : base.length ≤ 1000000) (hpl : p.length ≤ 1000000) (hs : Sat s w F) :
    Calls P n_ref15_Delta #[bw, pv] w (Ret s (fun v : Value => v) (fun v => OwnB v (deltaN base p) :: F) (fun _ => True)) := by
  refine enter K.fn_ref15_Delta rfl K.nt_ref15_Delta rfl hs ?_
  clear hs w; intro a w h
  refine c_seq (c_region ?_)
  refine wv h (r_assign h rfl) rfl ?_
  clear h a w; intro a w h
  refine wnil (c_then ?_)
  refine c_seq (c_region ?_)
  refine wv h (r_assign h rfl) rfl ?_
  clear h a w; intro a w h
  refine wv h (r_assign h rfl) rfl ?_
  clear h a w; intro a w h
  refine wnil (c_then ?_)
  refine c_seq ?_
  refine c_seq (c_region ?_)
  refine wv h (r_assign h rfl) rfl ?_
  clear h a w; intro a w h
  refine wnil (c_then ?_)
  refine c_block ?_
  refine c_loopX ⟨h.1, h.addNilb.addNilb.2⟩ (X := Value × Value × Nat × List UInt8 × List UInt8) (fun x => [(0, bw), (1, pv), (5, x.1), (6, x.2.1), (7, .int .i64 (x.2.2.1 : Int))]) (fun x => OwnB x.1 x.2.2.2.1 :: OwnB x.2.1 x.2.2.2.2 :: F)
    (fun x => x.2.2.1 ≤ p.length ∧ x.2.2.2.1 ++ makeA base (p.drop x.2.2.1) x.2.2.2.2 = deltaN base p ∧ x.2.2.2.1.length + x.2.2.2.2.length ≤ 31 * x.2.2.1) (fun x => p.length - x.2.2.1) (.slice none 0 0, .slice none 0 0, 0, [], []) (h.addNilb.addNilb.keep [0, 1, 5, 6, 7]) ⟨Nat.zero_le _, rfl, Nat.le_refl _⟩ ?_
  clear h a w; intro x a w hx h
  obtain ⟨ov, tv, j, out, told⟩ := x
  obtain ⟨hx1, hx2, hx3⟩ := hx
  dsimp only at hx1 hx2 hx3 h
  have hq : ViewsB F (subV 1 pv j p.length) (p.drop j) := by
    have := hp.sub (i := j) (j := p.length) hx1 (Nat.le_refl _)
    rwa [List.take_of_length_le (by simp)] at this
  have hn := longN_le base (p.drop j)
  rw [List.length_drop] at hn
  have hqc := (hq.cons (OwnB tv told)).cons (OwnB ov out)
  have hbc := (hb.cons (OwnB tv told)).cons (OwnB ov out)
  as_aux_lemma =>
   refine c_seq ?_
   refine c_seq (c_region ?_)
   refine wv h (r_move h rfl) rfl ?_
   clear h a w; intro a w h
   refine wv h (r_move h rfl) rfl ?_
   clear h a w; intro a w h
   refine wv h (r_lenB h rfl K.u_S_uint8 (by exact ViewsB.of_drop 2 (by assumption))) rfl ?_
   clear h a w; intro a w h
   refine wv h (r_bin h rfl rfl (B.leq_int)) rfl ?_
   clear h a w; intro a w h
   refine wnil (c_then ?_)
   refine c_condD h rfl (fun ht1 => ?_) (fun ht1 => ?_)
   ·
    refine c_skip ?_
    refine c_then ?_
    refine c_block ?_
    refine c_seq (c_region ?_)
    refine wv h (r_move h rfl) rfl ?_
    clear h a w; intro a w h
    refine wv h (r_move h rfl) rfl ?_
    clear h a w; intro a w h
    refine wv h (r_move h rfl) rfl ?_
    clear h a w; intro a w h
    refine wv h (r_sliceB h rfl K.u_S_uint8 K.sz_uint8 ((hp.cons _).cons _) j p.length ⟨_, rfl⟩ rfl hx1 (Nat.le_refl _)) rfl ?_
    clear h a w; intro a w h
    refine wl rfl (op_call h rfl K.go_ref15_piece (ref_piece s _ bw _ base (p.drop j) _ hbc hqc hbl (by rw [List.length_drop]; omega) h.2) rfl ?_)
    clear h a w; intro x a w hx h
    refine wv h (r_move h rfl) rfl ?_
    clear h a w; intro a w h
    refine wv h (r_extractN h rfl rfl) rfl ?_
    clear h a w; intro a w h
    refine wv h (r_extractN h rfl rfl) rfl ?_
    clear h a w; intro a w h
    refine wv h (r_assign h rfl) rfl ?_
    clear h a w; intro a w h
    refine wv h (r_assign h rfl) rfl ?_
    clear h a w; intro a w h
    refine wnil (c_then ?_)
    refine c_seq ?_
    refine c_seq (c_region ?_)
    refine wv h (r_move h rfl) rfl ?_
    clear h a w; intro a w h
    refine wv h (r_move h rfl) rfl ?_
    clear h a w; intro a w h
    refine wv h (r_lenB h rfl K.u_S_uint8 (by exact ViewsB.of_drop 2 (by assumption))) rfl ?_
    clear h a w; intro a w h
    refine wv h (r_bin h rfl rfl (B.lss_int)) rfl ?_
    clear h a w; intro a w h
    refine wv h (r_move h rfl) rfl ?_
    clear h a w; intro a w h
    refine wvG h (by exact .t rfl) (fun hg => by (have hg2 := hg; (simp only [Bool.and_eq_true, Bool.or_eq_true, Bool.not_eq_true', decide_eq_true_eq, decide_eq_false_iff_not] at hg2)); exact r_move h rfl) rfl ?_
    clear h a w; intro a w h
    refine wvG h (by exact .t rfl) (fun hg => by (simp only [↓gval_on hg, ↓gval_and hg] at h); (have hg2 := hg; (simp only [Bool.and_eq_true, Bool.or_eq_true, Bool.not_eq_true', decide_eq_true_eq, decide_eq_false_iff_not] at hg2)); exact r_bin h rfl rfl (B.lss_int)) rfl ?_
    clear h a w; intro a w h
    refine wv h (r_pickA h rfl rfl rfl) rfl ?_
    clear h a w; intro a w h
    refine wnil (c_then ?_)
    refine c_condP h rfl (by (simp only [Bool.and_eq_true, Bool.or_eq_true, Bool.not_eq_true', decide_eq_true_eq, decide_eq_false_iff_not, ne_eq, Bool.not_eq_eq_eq_not, Bool.not_true, beq_iff_eq, bne_iff_ne]; exact Iff.rfl)) (fun ht2 => ?_) (fun ht2 => ?_)
    ·
     have ho := makeA_one (t := told) (show 0 < (p.drop j).length by rw [List.length_drop]; omega) (show (longN base (p.drop j)).2 < 4 by omega)
     rw [List.drop_drop, show (p.drop j).getD 0 0 = p.getD j 0 by simp [List.getD_eq_getElem?_getD]] at ho
     as_aux_lemma =>
      refine c_seq (c_region ?_)
      refine wv h (r_move h rfl) rfl ?_
      clear h a w; intro a w h
      refine wv h (r_move h rfl) rfl ?_
      clear h a w; intro a w h
      refine wv h (r_move h rfl) rfl ?_
      clear h a w; intro a w h
      refine wv h (r_elP h rfl rfl K.u_S_uint8 K.sz_uint8 (by exact ViewsB.of_drop 2 (by assumption)) (by omega) (by omega)) rfl ?_
      clear h a w; intro a w h
      refine wv h (r_elb h rfl K.u_uint8 rfl (by exact ViewsB.of_drop 2 (by assumption)) (by omega)) rfl ?_
      clear h a w; intro a w h
      refine wl rfl (op_buildSlice h K.u_S_uint8 K.sz_uint8 K.z_uint8 rfl rfl rfl rfl rfl (by simp [Value.cells, bv, w32, w64, sv]) rfl ?_)
      clear h a w; intro b35 a w h
      refine wl rfl (op_appendb h rfl rfl K.u_S_uint8 K.sz_uint8 K.z_uint8 rfl rfl 1 rfl (by omega) rfl ?_)
      clear h a w; intro v36 a w h
      (simp only [List.set_cons_zero, List.set_cons_succ] at h)
      refine wv h (r_assign h rfl) rfl ?_
      clear h a w; intro a w h
      refine wnil (c_then ?_)
      refine c_seq (c_region ?_)
      refine wv h (r_move h rfl) rfl ?_
      clear h a w; intro a w h
      refine wv h (r_bin h rfl rfl (B.add_i64 (by omega) (by omega))) rfl ?_
      clear h a w; intro a w h
      refine wv h (r_assign h rfl) rfl ?_
      clear h a w; intro a w h
      refine wnil (c_then ?_)
      refine c_exit ?_
      refine e_then ?_
      refine e_here ?_
      exact ⟨(ov, v36, j + 1, out, told ++ [p.getD j 0]), h.keep [0, 1, 5, 6, 7], ⟨by show j + 1 ≤ p.length; omega, by rw [← hx2, ho], by show out.length + (told ++ [p.getD j 0]).length ≤ 31 * (j + 1); simp only [List.length_append, List.length_singleton]; omega⟩, by show p.length - (j + 1) < p.length - j; omega⟩
    ·
     refine c_skip ?_
     refine c_then ?_
     refine c_meet h (X := Value × Value) (fun x => [(0, bw), (1, pv), (5, x.1), (6, x.2), (7, .int .i64 (j : Int)), (8, .int .i64 ((longN base (p.drop j)).1 : Int)), (9, .int .i64 ((longN base (p.drop j)).2 : Int))])
       (fun x => OwnB x.1 (out ++ tellN told) :: OwnB x.2 [] :: F) (fun _ => True) ?_ ?_
     ·
      refine c_seq (c_region ?_)
      refine wv h (r_move h rfl) rfl ?_
      clear h a w; intro a w h
      refine wv h (r_lenB h rfl K.u_S_uint8 (by exact ViewsB.own 1 rfl)) rfl ?_
      clear h a w; intro a w h
      refine wv h (r_bin h rfl rfl (B.gtr_int)) rfl ?_
      clear h a w; intro a w h
      refine wnil (c_then ?_)
      refine c_condD h rfl (fun ht3 => ?_) (fun ht3 => ?_)
      ·
       have ht0 := tellN_pos (t := told) (by omega)
       as_aux_lemma =>
        refine c_seq (c_region ?_)
        refine wv h (r_move h rfl) rfl ?_
        clear h a w; intro a w h
        refine wv h (r_move h rfl) rfl ?_
        clear h a w; intro a w h
        refine wv h (r_lenB h rfl K.u_S_uint8 (by exact ViewsB.own 1 rfl)) rfl ?_
        clear h a w; intro a w h
        refine wv h (r_bin h rfl rfl (B.mul_i64 (by omega) (by omega))) rfl ?_
        clear h a w; intro a w h
        rw [show (2 : Int) * (told.length : Int) = ((2 * told.length : Nat) : Int) by omega] at h
        refine wl rfl (op_call h rfl K.go_ref01_Num (ref_num s _ (2 * told.length) _ (by omega) h.2) rfl ?_)
        clear h a w; intro v46 a w hx h
        have hn46 := numN_len9 (2 * told.length) (by omega)
        refine wl rfl (op_appendbs h rfl rfl K.u_S_uint8 K.sz_uint8 K.z_uint8 rfl rfl 1 rfl (Src.bytes K.u_S_uint8 (by exact ViewsB.own 0 rfl) h.2) (by omega) rfl ?_)
        clear h a w; intro v47 a w h
        (simp only [List.set_cons_zero, List.set_cons_succ] at h)
        refine wv h (r_move h rfl) rfl ?_
        clear h a w; intro a w h
        refine wl rfl (op_appendbs h rfl rfl K.u_S_uint8 K.sz_uint8 K.z_uint8 rfl rfl 1 rfl (Src.bytes K.u_S_uint8 (by exact ViewsB.own 2 rfl) h.2) (by (simp; omega)) rfl ?_)
        clear h a w; intro v49 a w h
        (simp only [List.set_cons_zero, List.set_cons_succ] at h)
        refine wv h (r_assign h rfl) rfl ?_
        clear h a w; intro a w h
        refine wnil (c_then ?_)
        refine c_region ?_
        refine wv h (r_assign h rfl) rfl ?_
        clear h a w; intro a w h
        refine wnil ?_
        rw [List.append_assoc, ← ht0] at h
        exact ⟨(v49, .slice none 0 0), ⟨(h.keep [0, 1, 5, 6, 7, 8, 9]).1, tell_end2 (h.addNilb.2.perm (.swap _ _ _)).tail⟩, trivial⟩
      ·
       obtain rfl : told = [] := List.eq_nil_of_length_eq_zero (by omega)
       refine c_skip ?_
       exact ⟨(ov, tv), ⟨(h.keep [0, 1, 5, 6, 7, 8, 9]).1, by rw [tellN_nil, List.append_nil]; exact h.2⟩, trivial⟩
     ·
      clear h a w; intro z a w hz h
      obtain ⟨ov2, tv2⟩ := z
      dsimp only at h
      have htl := tellN_le (t := told) (by omega)
      refine c_seq ?_
      refine c_seq (c_region ?_)
      refine wv h (r_move h rfl) rfl ?_
      clear h a w; intro a w h
      refine wv h (r_move h rfl) rfl ?_
      clear h a w; intro a w h
      refine wv h (r_lenB h rfl K.u_S_uint8 (by exact ViewsB.of_drop 2 (by assumption))) rfl ?_
      clear h a w; intro a w h
      refine wv h (r_bin h rfl rfl (B.eql_int)) rfl ?_
      clear h a w; intro a w h
      refine wnil (c_then ?_)
      refine c_condD h rfl (fun ht4 => ?_) (fun ht4 => ?_)
      ·
       obtain rfl : j = p.length := by omega
       rw [List.drop_length, makeA_nil] at hx2
       as_aux_lemma =>
        refine c_exit ?_
        refine e_then ?_
        refine e_up rfl ?_
        refine e_then ?_
        refine e_here ?_
        refine c_then ?_
        refine c_seq (c_region ?_)
        refine wv h (r_move h rfl) rfl ?_
        clear h a w; intro a w h
        refine wv h (r_assign h rfl) rfl ?_
        clear h a w; intro a w h
        refine wnil (c_then ?_)
        refine c_ret ?_
        rw [hx2] at h
        exact ret1 h rfl rfl ⟨ov2, rfl, (h.2.perm (.swap _ _ _)).drop 1, trivial⟩
      ·
       have ho := makeA_long (t := told) (show ¬ (longN base (p.drop j)).2 < 4 by omega)
       rw [List.drop_drop] at ho
       have hn1 := numN_len9 (2 * (longN base (p.drop j)).2 + 1) (by omega)
       have hn2 := numN_len9 (longN base (p.drop j)).1 (by omega)
       refine c_skip ?_
       refine c_then ?_
       refine c_seq (c_region ?_)
       refine wv h (r_move h rfl) rfl ?_
       clear h a w; intro a w h
       refine wv h (r_move h rfl) rfl ?_
       clear h a w; intro a w h
       refine wv h (r_bin h rfl rfl (B.mul_i64 (by omega) (by omega))) rfl ?_
       clear h a w; intro a w h
       refine wv h (r_bin h rfl rfl (B.add_i64 (by omega) (by omega))) rfl ?_
       clear h a w; intro a w h
       rw [show (2 : Int) * ((longN base (p.drop j)).2 : Int) + 1 = ((2 * (longN base (p.drop j)).2 + 1 : Nat) : Int) by omega] at h
       refine wl rfl (op_call h rfl K.go_ref01_Num (ref_num s _ (2 * (longN base (p.drop j)).2 + 1) _ (by omega) h.2) rfl ?_)
       clear h a w; intro v58 a w hx h
       refine wl rfl (op_appendbs h rfl rfl K.u_S_uint8 K.sz_uint8 K.z_uint8 rfl rfl 1 rfl (Src.bytes K.u_S_uint8 (by exact ViewsB.own 0 rfl) h.2) (by (simp; omega)) rfl ?_)
       clear h a w; intro v59 a w h
       (simp only [List.set_cons_zero, List.set_cons_succ] at h)
       refine wv h (r_move h rfl) rfl ?_
       clear h a w; intro a w h
       refine wl rfl (op_call h rfl K.go_ref01_Num (ref_num s _ (longN base (p.drop j)).1 _ (by omega) h.2) rfl ?_)
       clear h a w; intro v61 a w hx h
       refine wl rfl (op_appendbs h rfl rfl K.u_S_uint8 K.sz_uint8 K.z_uint8 rfl rfl 2 rfl (Src.bytes K.u_S_uint8 (by exact ViewsB.own 0 rfl) h.2) (by (simp; omega)) rfl ?_)
       clear h a w; intro v62 a w h
       (simp only [List.set_cons_zero, List.set_cons_succ] at h)
       refine wv h (r_assign h rfl) rfl ?_
       clear h a w; intro a w h
       refine wnil (c_then ?_)
       refine c_region ?_
       refine wv h (r_move h rfl) rfl ?_
       clear h a w; intro a w h
       refine wv h (r_move h rfl) rfl ?_
       clear h a w; intro a w h
       refine wv h (r_bin h rfl rfl (B.add_i64 (by omega) (by omega))) rfl ?_
       clear h a w; intro a w h
       refine wv h (r_assign h rfl) rfl ?_
       clear h a w; intro a w h
       refine wnil ?_
       refine b_normal ?_
       rw [show (j : Int) + ((longN base (p.drop j)).2 : Int) = ((j + (longN base (p.drop j)).2 : Nat) : Int) by omega] at h
       exact ⟨(v62, tv2, j + (longN base (p.drop j)).2, out ++ tellN told ++ numN (2 * (longN base (p.drop j)).2 + 1) ++ numN (longN base (p.drop j)).1, []), ⟨(h.keep [0, 1, 5, 6, 7]).1, h.2.drop 2⟩, ⟨by show j + (longN base (p.drop j)).2 ≤ p.length; omega, by rw [← hx2, ho]; simp only [List.append_assoc], by show (out ++ tellN told ++ numN (2 * (longN base (p.drop j)).2 + 1) ++ numN (longN base (p.drop j)).1).length + 0 ≤ 31 * (j + (longN base (p.drop j)).2); simp only [List.length_append]; omega⟩, by show p.length - (j + (longN base (p.drop j)).2) < p.length - j; omega⟩
   ·
    exfalso
    omega
end Go.Proofs.K

/- What is made, as a row of told runs and pieces. -/
namespace Go.Proofs.K
open Go.Sl
theorem makeA_run (base : List UInt8) : ∀ (q t : List UInt8), ∃ k, k ≤ q.length ∧ makeA base q t = tellN (t ++ q.take k) ++ makeA base (q.drop k) [] ∧ (q.drop k = [] ∨ 4 ≤ (longN base (q.drop k)).2)
  | [], t => ⟨0, Nat.le_refl _, by simp [makeA_nil, tellN_nil], .inl rfl⟩
  | x :: r, t => by
    by_cases h : (longN base (x :: r)).2 < 4
    · obtain ⟨k, h1, h2, h3⟩ := makeA_run base r (t ++ [x])
      refine ⟨k + 1, by simpa using h1, ?_, h3⟩
      rw [makeA_one (by simp) h]
      simpa using h2
    · refine ⟨0, Nat.zero_le _, ?_, .inr (by simpa using h)⟩
      rw [List.drop_zero, List.take_zero, List.append_nil, makeA_long h, makeA_long (t := []) h, tellN_nil]
      simp only [List.append_assoc, List.nil_append]
/-- what is left to be read, with nothing kept back: nothing, a told run, or a piece -/
theorem makeA_split (base q : List UInt8) : q = [] ∨ (∃ k, 0 < k ∧ k ≤ q.length ∧ makeA base q [] = numN (2 * k) ++ q.take k ++ makeA base (q.drop k) []) ∨
    (4 ≤ (longN base q).2 ∧ makeA base q [] = numN (2 * (longN base q).2 + 1) ++ numN (longN base q).1 ++ makeA base (q.drop (longN base q).2) []) := by
  obtain ⟨k, h1, h2, h3⟩ := makeA_run base q []
  by_cases hk : k = 0
  · subst hk
    rw [List.drop_zero] at h3
    rcases h3 with h3 | h3
    · exact .inl h3
    · right; right
      refine ⟨h3, ?_⟩
      rw [makeA_long (by omega), tellN_nil, List.nil_append]
  · right; left
    refine ⟨k, by omega, h1, ?_⟩
    have hl : (q.take k).length = k := by simp; omega
    rw [h2, List.nil_append, tellN_pos (by omega), hl]
/-- a piece stands in both -/
theorem piece_same (base q : List UInt8) : q = (base.drop (longN base q).1).take (longN base q).2 ++ q.drop (longN base q).2 := by
  rw [longN_take, List.take_append_drop]
end Go.Proofs.K

/- What Apply's loop keeps, in plain things. -/
namespace Go.Proofs.K
open Go.Sl
/-- an eye upon a delta of q stands between two of its parts -/
def ApI (base p out : List UInt8) (st : Int × List UInt8) : Prop := ∀ q : List UInt8, q.length ≤ 900 → p = deltaN base q → st.1 = 0 ∧ ∃ q', q = out ++ q' ∧ st.2 = makeA base q' []
theorem ApI_start (base p : List UInt8) : ApI base p [] (0, p) := fun q h1 h2 => ⟨rfl, q, rfl, h2⟩
theorem ApI_even {base p out : List UInt8} {st : Int × List UInt8} (h : ApI base p out st) (h0 : st.2 ≠ []) (he : (eyeNum st 1801).1 % 2 = 0) :
    ApI base p (out ++ (eyeRaw (eyeNum st 1801).2 ((eyeNum st 1801).1 / 2)).1) (eyeRaw (eyeNum st 1801).2 ((eyeNum st 1801).1 / 2)).2 := by
  intro q h1 h2
  obtain ⟨h3, q', h4, h5⟩ := h q h1 h2
  obtain ⟨e, l⟩ := st
  simp only at h3 h5 h0
  subst h3 h5
  have hq := congrArg List.length h4
  rw [List.length_append] at hq
  rcases makeA_split base q' with hs | ⟨k, k1, k2, hs⟩ | ⟨k1, hs⟩
  · subst hs; exact absurd rfl h0
  · rw [hs, List.append_assoc, eyeNum_numN _ _ _ (by omega), if_neg (by omega)] at he ⊢
    simp only at he ⊢
    rw [show ((2 * k : Nat) : Int) / 2 = (k : Int) by omega, eyeRaw_enc _ _ _ (by simp; omega)]
    exact ⟨rfl, q'.drop k, by rw [List.append_assoc, List.take_append_drop]; exact h4, rfl⟩
  · have hl := (longN_le base q').1
    rw [hs, List.append_assoc, eyeNum_numN _ _ _ (by omega), if_neg (by omega)] at he
    simp only at he
    omega
theorem ApI_odd {base p out : List UInt8} {st : Int × List UInt8} (h : ApI base p out st) (hb : base.length ≤ 1000000) (h0 : st.2 ≠ []) (he : ¬ (eyeNum st 1801).1 % 2 = 0) (q : List UInt8) (h1 : q.length ≤ 900) (h2 : p = deltaN base q) :
    (eyeNum st 1801).1 / 2 ≤ (base.length : Int) - (eyeNum (eyeNum st 1801).2 base.length).1 ∧ (eyeNum (eyeNum st 1801).2 base.length).2.1 = 0 ∧
    ∃ q', q = out ++ (base.drop (eyeNum (eyeNum st 1801).2 base.length).1.toNat).take ((eyeNum st 1801).1 / 2).toNat ++ q' ∧ (eyeNum (eyeNum st 1801).2 base.length).2.2 = makeA base q' [] := by
  obtain ⟨h3, q', h4, h5⟩ := h q h1 h2
  obtain ⟨e, l⟩ := st
  simp only at h3 h5 h0
  subst h3 h5
  have hq := congrArg List.length h4
  rw [List.length_append] at hq
  have hl := longN_le base q'
  rcases makeA_split base q' with hs | ⟨k, k1, k2, hs⟩ | ⟨k1, hs⟩
  · subst hs; exact absurd rfl h0
  · rw [hs, List.append_assoc, eyeNum_numN _ _ _ (by omega), if_neg (by omega)] at he
    simp only at he
    omega
  · rw [hs, List.append_assoc, eyeNum_numN _ _ _ (by omega), if_neg (by omega)]
    simp only
    rw [eyeNum_numN _ _ _ (by omega), if_neg (by omega)]
    simp only
    refine ⟨by omega, by trivial, q'.drop (longN base q').2, ?_, by rfl⟩
    rw [Int.toNat_natCast, show (((2 * (longN base q').2 + 1 : Nat) : Int) / 2).toNat = (longN base q').2 by omega, List.append_assoc, ← piece_same]
    exact h4
end Go.Proofs.K

/- The contract of Apply. -/
namespace Go.Proofs.K
open Go.Sl
attribute [local irreducible] Go.Sl.Own Go.Sl.Blk Go.Sl.Sep Go.Sl.Ex Go.Sl.Fact

theorem eyeNum_less {st : Int × List UInt8} (most : Int) (h0 : st.1 = 0) (h : st.2 ≠ []) : (eyeNum st most).2.2.length < st.2.length := by
  obtain ⟨e, l⟩ := st
  simp only at h0 h
  subst h0
  cases l with
  | nil => exact absurd rfl h
  | cons b r =>
    rw [eyeNum, if_pos rfl]
    show (getN (b :: r) 0 0 most).2.2.length < r.length + 1
    rw [getN]
    split
    · simp
    · split
      · exact Nat.lt_succ_of_le (getN_rest r _ _ _)
      · split <;> simp
theorem makeA_none {base q : List UInt8} (h : makeA base q [] = []) : q = [] := by
  rcases makeA_split base q with hs | ⟨k, k1, k2, hs⟩ | ⟨k1, hs⟩
  · exact hs
  · have := congrArg List.length (h.symm.trans hs)
    have h2 := numN_len_pos (2 * k)
    simp at this; omega
  · have := congrArg List.length (h.symm.trans hs)
    have h2 := numN_len_pos (2 * (longN base q).2 + 1)
    simp at this; omega
theorem ApI_end {base p out : List UInt8} {st : Int × List UInt8} (h : ApI base p out st) (q : List UInt8) (h1 : q.length ≤ 900) (h2 : p = deltaN base q) : st.1 = 0 ∧ out.length ≤ 900 ∧ (st.2 = [] → out = q ∧ eyeEnd st = 0) := by
  obtain ⟨h3, q', h4, h5⟩ := h q h1 h2
  have hq := congrArg List.length h4
  rw [List.length_append] at hq
  refine ⟨h3, by omega, fun e => ?_⟩
  rw [e] at h5
  have := makeA_none h5.symm
  subst this
  exact ⟨by rw [h4, List.append_nil], by rw [eyeEnd, if_neg (by rw [e]; simp), h3]⟩
end Go.Proofs.K

/- The contract of Apply. -/
namespace Go.Proofs.K
open Go.Sl
attribute [local irreducible] Go.Sl.Own Go.Sl.Blk Go.Sl.Sep Go.Sl.Ex Go.Sl.Fact

/-- what Apply answers: a fault and nothing, or bytes of which p is the delta; a delta of few bytes is read -/
def ApR (base p : List UInt8) (e : Int) (out : List UInt8) : Prop := ((e = 7 ∧ out = []) ∨ (e = 0 ∧ deltaN base out = p ∧ out.length ≤ 900)) ∧ ∀ q : List UInt8, q.length ≤ 900 → p = deltaN base q → e = 0 ∧ out = q

theorem eyeRaw_most (st : Int × List UInt8) (n : Int) : ((eyeRaw st n).1.length : Int) ≤ max n 0 := by
  unfold eyeRaw; split
  · simp only [List.length_nil]; omega
  · split
    · simp only [List.length_nil]; omega
    · simp only [List.length_take]; omega

theorem delta_Apply (s w : World) (bw pv : Value) (base p : List UInt8) (F : List HItem) (hb : ViewsB F bw base) (hp : ViewsB F pv p) (hbl : base.length ≤ 1000000) (hpl : p.length ≤ 1000000) (hs : Sat s w F) :
    Calls P n_delta_Apply #[bw, pv] w (Ret s (fun x : Value × Int × List UInt8 => .tuple #[x.1, .int .i64 x.2.1]) (fun x => OwnB x.1 x.2.2 :: F) (fun x => ApR base p x.2.1 x.2.2)) := by
  refine enter K.fn_delta_Apply rfl K.nt_delta_Apply rfl hs ?_
  clear hs w; intro a w h
  refine c_seq (c_region ?_)
  refine wv h (r_assign h rfl) rfl ?_
  clear h a w; intro a w h
  refine wv h (r_assign h rfl) rfl ?_
  clear h a w; intro a w h
  refine wnil (c_then ?_)
  refine c_seq (c_region ?_)
  refine wv h (r_move h rfl) rfl ?_
  clear h a w; intro a w h
  refine wl rfl (op_call h rfl K.go_digit_NewEye (eye_New s _ pv p _ hp (by omega) h.2) rfl ?_)
  clear h a w; intro b a w hx h
  (simp only [List.set_cons_zero, List.set_cons_succ] at h)
  refine wv h (r_assign h rfl) rfl ?_
  clear h a w; intro a w h
  refine wnil (c_then ?_)
  refine c_seq (c_region ?_)
  refine wv h (r_assign h rfl) rfl ?_
  clear h a w; intro a w h
  refine wnil (c_then ?_)
  refine c_seq ?_
  refine c_block ?_
  refine c_loopX ⟨h.1, h.addNilb.2.perm (.swap _ _ _)⟩ (X := Value × List UInt8 × (Int × List UInt8)) (fun x => [(0, bw), (1, pv), (6, .pointer (some ⟨b, 0, none⟩)), (7, x.1)]) (fun x => EyeI b x.2.2 :: OwnB x.1 x.2.1 :: F)
    (fun x => x.2.2.2.length ≤ p.length ∧ x.2.1.length ≤ 1900 ∧ ApI base p x.2.1 x.2.2) (fun x => x.2.2.2.length) (.slice none 0 0, [], (0, p)) ⟨(h.keep [0, 1, 6, 7]).1, h.addNilb.2.perm (.swap _ _ _)⟩ ⟨Nat.le_refl _, Nat.zero_le _, ApI_start base p⟩ ?_
  clear h a w; intro x a w hx h
  obtain ⟨ov, out, st⟩ := x
  obtain ⟨hx1, hx2, hx3⟩ := hx
  dsimp only at hx1 hx2 hx3 h
  have hm := eyeNum_most st 1801
  have hm2 := eyeNum_most (eyeNum st 1801).2 base.length
  have hr1 := eyeNum_len' st 1801
  have hr2 := eyeNum_len' (eyeNum st 1801).2 base.length
  have hr3 := eyeRaw_most (eyeNum st 1801).2 ((eyeNum st 1801).1 / 2)
  have hr4 := eyeRaw_len (eyeNum st 1801).2 ((eyeNum st 1801).1 / 2)
  obtain ⟨an, ha⟩ : ∃ k : Nat, (eyeNum (eyeNum st 1801).2 base.length).1 = k := ⟨_, (Int.toNat_of_nonneg hm2.1).symm⟩
  obtain ⟨kn, hk⟩ : ∃ k : Nat, (eyeNum st 1801).1 / 2 = k := ⟨((eyeNum st 1801).1 / 2).toNat, by omega⟩
  have hbc := (hb.cons (OwnB ov out)).cons (EyeI b st)
  as_aux_lemma =>
   refine c_seq ?_
   refine c_seq (c_region ?_)
   refine wv h (r_move h rfl) rfl ?_
   clear h a w; intro a w h
   refine wl rfl (op_call h rfl K.go_digit_Eye_Left (eye_LeftI s _ b st _ 0 rfl h.2) rfl ?_)
   clear h a w; intro x a w hx h
   refine wv h (r_bin h rfl rfl (B.gtr_int)) rfl ?_
   clear h a w; intro a w h
   refine wv h (r_move h rfl) rfl ?_
   clear h a w; intro a w h
   refine wvG h (by exact .t rfl) (fun hg => by (have hg2 := hg; (simp only [Bool.and_eq_true, Bool.or_eq_true, Bool.not_eq_true', decide_eq_true_eq, decide_eq_false_iff_not] at hg2)); exact r_move h rfl) rfl ?_
   clear h a w; intro a w h
   refine wcG h (by exact .t rfl) K.go_digit_Eye_Fault (fun hg => by (simp only [↓gval_on hg, ↓gval_and hg]); (have hg2 := hg; (simp only [Bool.and_eq_true, Bool.or_eq_true, Bool.not_eq_true', decide_eq_true_eq, decide_eq_false_iff_not] at hg2)); exact ⟨_, rfl, eye_FaultI s _ b st _ 0 rfl h.2⟩) rfl ?_
   clear h a w; intro a w h
   refine wvG h (by exact .t rfl) (fun hg => by (simp only [↓gval_on hg, ↓gval_and hg] at h); (have hg2 := hg; (simp only [Bool.and_eq_true, Bool.or_eq_true, Bool.not_eq_true', decide_eq_true_eq, decide_eq_false_iff_not] at hg2)); exact r_bin h rfl rfl (B.eql_int)) rfl ?_
   clear h a w; intro a w h
   refine wv h (r_pickA h rfl rfl rfl) rfl ?_
   clear h a w; intro a w h
   refine wv h (r_move h rfl) rfl ?_
   clear h a w; intro a w h
   refine wvG h (by exact .t rfl) (fun hg => by (have hg2 := hg; (simp only [Bool.and_eq_true, Bool.or_eq_true, Bool.not_eq_true', decide_eq_true_eq, decide_eq_false_iff_not] at hg2)); exact r_move h rfl) rfl ?_
   clear h a w; intro a w h
   refine wvG h (by exact .t rfl) (fun hg => by (simp only [↓gval_on hg, ↓gval_and hg] at h); (have hg2 := hg; (simp only [Bool.and_eq_true, Bool.or_eq_true, Bool.not_eq_true', decide_eq_true_eq, decide_eq_false_iff_not] at hg2)); exact r_lenB h rfl K.u_S_uint8 (by exact ViewsB.own 1 rfl)) rfl ?_
   clear h a w; intro a w h
   refine wvG h (by exact .t rfl) (fun hg => by (simp only [↓gval_on hg, ↓gval_and hg] at h); (have hg2 := hg; (simp only [Bool.and_eq_true, Bool.or_eq_true, Bool.not_eq_true', decide_eq_true_eq, decide_eq_false_iff_not] at hg2)); exact r_bin h rfl rfl (B.leq_int)) rfl ?_
   clear h a w; intro a w h
   refine wv h (r_pickA h rfl rfl rfl) rfl ?_
   clear h a w; intro a w h
   refine wnil (c_then ?_)
   refine c_condP h rfl (by (simp only [Bool.and_eq_true, Bool.or_eq_true, Bool.not_eq_true', decide_eq_true_eq, decide_eq_false_iff_not, ne_eq, Bool.not_eq_eq_eq_not, Bool.not_true, beq_iff_eq, bne_iff_ne]; exact Iff.rfl)) (fun ht1 => ?_) (fun ht1 => ?_)
   ·
    have hs0 : st.1 = 0 := ht1.1.2
    have hne : st.2 ≠ [] := fun q => by have := ht1.1.1; rw [q] at this; simp at this
    have hless := eyeNum_less 1801 hs0 hne
    refine c_skip ?_
    refine c_then ?_
    refine c_block ?_
    refine c_seq (c_region ?_)
    refine wv h (r_move h rfl) rfl ?_
    clear h a w; intro a w h
    refine wl rfl (op_call h rfl K.go_digit_Eye_Num (eye_Num s _ b st 1801 _ 0 rfl (by decide) (by decide) (by omega) h.2) rfl ?_)
    clear h a w; intro x a w hx h
    (simp only [List.set_cons_zero, List.set_cons_succ] at h)
    refine wv h (r_assign h rfl) rfl ?_
    clear h a w; intro a w h
    refine wnil (c_then ?_)
    refine c_seq ?_
    refine c_seq (c_region ?_)
    refine wv h (r_move h rfl) rfl ?_
    clear h a w; intro a w h
    refine wv h (r_bin h rfl rfl (B.rem_i64 (by omega) (by omega))) rfl ?_
    clear h a w; intro a w h
    refine wv h (r_bin h rfl rfl (B.eql_int)) rfl ?_
    clear h a w; intro a w h
    refine wnil (c_then ?_)
    refine c_condD h rfl (fun ht2 => ?_) (fun ht2 => ?_)
    ·
     as_aux_lemma =>
      refine c_seq (c_region ?_)
      refine wv h (r_move h rfl) rfl ?_
      clear h a w; intro a w h
      refine wv h (r_move h rfl) rfl ?_
      clear h a w; intro a w h
      refine wv h (r_move h rfl) rfl ?_
      clear h a w; intro a w h
      refine wv h (r_bin h rfl rfl (B.quo_i64 (by omega) (by omega) (by omega))) rfl ?_
      clear h a w; intro a w h
      refine wl rfl (op_call h rfl K.go_digit_Eye_Raw (eye_Raw s _ b (eyeNum st 1801).2 ((eyeNum st 1801).1 / 2) _ 0 rfl (by omega) h.2) rfl ?_)
      clear h a w; intro x a w hx h
      (simp only [List.set_cons_zero, List.set_cons_succ] at h)
      refine wl rfl (op_appendbs h rfl rfl K.u_S_uint8 K.sz_uint8 K.z_uint8 rfl rfl 2 rfl (Src.bytes K.u_S_uint8 (by exact ViewsB.own 0 rfl) h.2) (by omega) rfl ?_)
      clear h a w; intro v35 a w h
      (simp only [List.set_cons_zero, List.set_cons_succ] at h)
      refine wv h (r_assign h rfl) rfl ?_
      clear h a w; intro a w h
      refine wnil (c_then ?_)
      refine c_exit ?_
      refine e_then ?_
      refine e_here ?_
      exact ⟨(v35, out ++ (eyeRaw (eyeNum st 1801).2 ((eyeNum st 1801).1 / 2)).1, (eyeRaw (eyeNum st 1801).2 ((eyeNum st 1801).1 / 2)).2), ⟨(h.keep [0, 1, 6, 7]).1, h.2.drop 1⟩, ⟨Nat.le_trans (Nat.le_trans hr4 hr1) hx1, by show (out ++ _).length ≤ 1900; rw [List.length_append]; omega, ApI_even hx3 hne ht2⟩, Nat.lt_of_le_of_lt hr4 hless⟩
    ·
     refine c_skip ?_
     refine c_then ?_
     refine c_seq (c_region ?_)
     refine wv h (r_move h rfl) rfl ?_
     clear h a w; intro a w h
     refine wv h (r_move h rfl) rfl ?_
     clear h a w; intro a w h
     refine wv h (r_lenB h rfl K.u_S_uint8 (by exact ViewsB.of_drop 2 (by assumption))) rfl ?_
     clear h a w; intro a w h
     refine wl rfl (op_call h rfl K.go_digit_Eye_Num (eye_Num s _ b (eyeNum st 1801).2 base.length _ 0 rfl (by omega) (by omega) (by omega) h.2) rfl ?_)
     clear h a w; intro x a w hx h
     (simp only [List.set_cons_zero, List.set_cons_succ] at h)
     rw [ha] at h
     refine wv h (r_assign h rfl) rfl ?_
     clear h a w; intro a w h
     refine wnil (c_then ?_)
     refine c_seq ?_
     refine c_seq (c_region ?_)
     refine wv h (r_move h rfl) rfl ?_
     clear h a w; intro a w h
     refine wv h (r_bin h rfl rfl (B.quo_i64 (by omega) (by omega) (by omega))) rfl ?_
     clear h a w; intro a w h
     refine wv h (r_move h rfl) rfl ?_
     clear h a w; intro a w h
     refine wv h (r_lenB h rfl K.u_S_uint8 (by exact ViewsB.of_drop 2 (by assumption))) rfl ?_
     clear h a w; intro a w h
     refine wv h (r_move h rfl) rfl ?_
     clear h a w; intro a w h
     refine wv h (r_bin h rfl rfl (B.sub_i64 (by omega) (by omega))) rfl ?_
     clear h a w; intro a w h
     refine wv h (r_bin h rfl rfl (B.gtr_int)) rfl ?_
     clear h a w; intro a w h
     refine wnil (c_then ?_)
     refine c_condD h rfl (fun ht3 => ?_) (fun ht3 => ?_)
     ·
      as_aux_lemma =>
       refine c_seq (c_region ?_)
       refine wv h (r_assign h rfl) rfl ?_
       clear h a w; intro a w h
       refine wv h (r_assign h rfl) rfl ?_
       clear h a w; intro a w h
       refine wnil (c_then ?_)
       refine c_ret ?_
       exact ret2 h rfl rfl rfl ⟨(.slice none 0 0, 7, []), rfl, (St.addNilb ⟨h.1, h.2.drop 2⟩).2, .inl ⟨rfl, rfl⟩, fun q q1 q2 => by have := (ApI_odd hx3 hbl hne ht2 q q1 q2).1; exfalso; omega⟩
     ·
      refine c_skip ?_
      refine c_then ?_
      refine c_region ?_
      refine wv h (r_move h rfl) rfl ?_
      clear h a w; intro a w h
      refine wv h (r_move h rfl) rfl ?_
      clear h a w; intro a w h
      refine wv h (r_move h rfl) rfl ?_
      clear h a w; intro a w h
      refine wv h (r_move h rfl) rfl ?_
      clear h a w; intro a w h
      refine wv h (r_move h rfl) rfl ?_
      clear h a w; intro a w h
      refine wv h (r_bin h rfl rfl (B.quo_i64 (by omega) (by omega) (by omega))) rfl ?_
      clear h a w; intro a w h
      rw [hk] at h
      refine wv h (r_bin h rfl rfl (B.add_i64 (by omega) (by omega))) rfl ?_
      clear h a w; intro a w h
      rw [show (an : Int) + (kn : Int) = ((an + kn : Nat) : Int) by omega] at h
      refine wv h (r_sliceB h rfl K.u_S_uint8 K.sz_uint8 ((hb.cons _).cons _) an (an + kn) ⟨_, rfl⟩ ⟨_, rfl⟩ (by omega) (by omega)) rfl ?_
      clear h a w; intro a w h
      refine wl rfl (op_appendbs h rfl rfl K.u_S_uint8 K.sz_uint8 K.z_uint8 rfl rfl 1 rfl (Src.bytes K.u_S_uint8 (by exact ViewsB.sub (by exact ViewsB.of_drop 2 (by assumption)) (by omega) (by omega)) h.2) (by (simp; omega)) rfl ?_)
      clear h a w; intro v55 a w h
      (simp only [List.set_cons_zero, List.set_cons_succ] at h)
      refine wv h (r_assign h rfl) rfl ?_
      clear h a w; intro a w h
      refine wnil ?_
      refine b_normal ?_
      refine ⟨(v55, _, (eyeNum (eyeNum st 1801).2 base.length).2), h.keep [0, 1, 6, 7], ⟨Nat.le_trans (Nat.le_trans hr2 hr1) hx1, ?_, fun q q1 q2 => ?_⟩, Nat.lt_of_le_of_lt hr2 hless⟩
      · show (out ++ _).length ≤ 1900
        simp only [List.length_append, List.length_take]; omega
      · obtain ⟨_, e1, q', e2, e3⟩ := ApI_odd hx3 hbl hne ht2 q q1 q2
        rw [ha, hk] at e2
        exact ⟨e1, q', by simpa using e2, e3⟩
   ·
    have hend : ∀ q : List UInt8, q.length ≤ 900 → p = deltaN base q → out = q ∧ eyeEnd st = 0 ∧ out.length ≤ 900 := fun q q1 q2 => by
      obtain ⟨e1, e2, e3⟩ := ApI_end hx3 q q1 q2
      have e4 : st.2 = [] := by
        apply List.eq_nil_of_length_eq_zero
        refine Nat.eq_zero_of_not_pos fun e => ht1 ⟨⟨by omega, e1⟩, by omega⟩
      exact ⟨(e3 e4).1, (e3 e4).2, e2⟩
    refine c_exit ?_
    refine e_then ?_
    refine e_then ?_
    refine e_here ?_
    refine c_then ?_
    refine c_seq ?_
    rcases hg : (decide (eyeEnd st ≠ 0) || decide ((900 : Int) < (out.length : Int))) with _ | _
    ·
     refine c_seq (c_region ?_)
     refine wv h (r_move h rfl) rfl ?_
     clear h a w; intro a w h
     refine wl rfl (op_call h rfl K.go_digit_Eye_End (eye_EndI s _ b st _ 0 rfl h.2) rfl ?_)
     clear h a w; intro x a w hx h
     refine wv h (r_bin h rfl rfl (B.neq_int)) rfl ?_
     clear h a w; intro a w h
     refine wv h (r_move h rfl) rfl ?_
     clear h a w; intro a w h
     refine wvG h (by exact .f rfl) (fun hg => by (have hg2 := hg; (simp only [Bool.and_eq_true, Bool.or_eq_true, Bool.not_eq_true', decide_eq_true_eq, decide_eq_false_iff_not] at hg2)); exact r_move h rfl) rfl ?_
     clear h a w; intro a w h
     refine wvG h (by exact .f rfl) (fun hg => by (simp only [↓gval_on hg, ↓gval_and hg] at h); (have hg2 := hg; (simp only [Bool.and_eq_true, Bool.or_eq_true, Bool.not_eq_true', decide_eq_true_eq, decide_eq_false_iff_not] at hg2)); exact r_lenB h rfl K.u_S_uint8 (by exact ViewsB.own 1 rfl)) rfl ?_
     clear h a w; intro a w h
     refine wvG h (by exact .f rfl) (fun hg => by (simp only [↓gval_on hg, ↓gval_and hg] at h); (have hg2 := hg; (simp only [Bool.and_eq_true, Bool.or_eq_true, Bool.not_eq_true', decide_eq_true_eq, decide_eq_false_iff_not] at hg2)); exact r_bin h rfl rfl (B.gtr_int)) rfl ?_
     clear h a w; intro a w h
     refine wv h (r_pickO h rfl rfl rfl) rfl ?_
     clear h a w; intro a w h
     rw [hg] at h
     refine wv h (r_move h rfl) rfl ?_
     clear h a w; intro a w h
     refine wvG h (by exact .f rfl) (fun hg => by (have hg2 := hg; (simp only [Bool.and_eq_true, Bool.or_eq_true, Bool.not_eq_true', decide_eq_true_eq, decide_eq_false_iff_not] at hg2)); exact r_move h rfl) rfl ?_
     clear h a w; intro a w h
     refine wvG h (by exact .f rfl) (fun hg => by (simp only [↓gval_on hg, ↓gval_and hg] at h); (have hg2 := hg; (simp only [Bool.and_eq_true, Bool.or_eq_true, Bool.not_eq_true', decide_eq_true_eq, decide_eq_false_iff_not] at hg2)); exact r_move h rfl) rfl ?_
     clear h a w; intro a w h
     refine wlg h rfl rfl (op_call h rfl K.go_delta_Make (delta_Make s _ bw ov base out _ hbc (ViewsB.own 1 rfl) (by simp at hg; omega) h.2) rfl ?_)
     clear h a w; intro v67 a w hx h
     refine wvG h (by exact .f rfl) (fun hg => by (simp only [↓gval_on hg, ↓gval_and hg] at h); (have hg2 := hg; (simp only [Bool.and_eq_true, Bool.or_eq_true, Bool.not_eq_true', decide_eq_true_eq, decide_eq_false_iff_not] at hg2)); exact r_move h rfl) rfl ?_
     clear h a w; intro a w h
     refine wlg h rfl rfl (op_call h rfl K.go_bytes_Equal (bytes_Equal s _ v67 pv (deltaN base out) p _ (ViewsB.own 0 rfl) (((hp.cons _).cons _).cons _) h.2) rfl ?_)
     clear h a w; intro x a w hx h
     refine wvG h (by exact .f rfl) (fun hg => by (simp only [↓gval_on hg, ↓gval_and hg] at h); (have hg2 := hg; (simp only [Bool.and_eq_true, Bool.or_eq_true, Bool.not_eq_true', decide_eq_true_eq, decide_eq_false_iff_not] at hg2)); exact r_not h rfl) rfl ?_
     clear h a w; intro a w h
     refine wv h (r_pickO h rfl rfl rfl) rfl ?_
     clear h a w; intro a w h
     refine wnil (c_then ?_)
     refine c_condP h rfl (by (simp only [Bool.and_eq_true, Bool.or_eq_true, Bool.not_eq_true', decide_eq_true_eq, decide_eq_false_iff_not, ne_eq, Bool.not_eq_eq_eq_not, Bool.not_true, beq_iff_eq, bne_iff_ne]; exact Iff.rfl)) (fun ht4 => ?_) (fun ht4 => ?_)
     ·
      as_aux_lemma =>
       refine c_seq (c_region ?_)
       refine wv h (r_assign h rfl) rfl ?_
       clear h a w; intro a w h
       refine wv h (r_assign h rfl) rfl ?_
       clear h a w; intro a w h
       refine wnil (c_then ?_)
       refine c_ret ?_
       have hne2 : ¬ deltaN base out = p := by
         rcases ht4 with q | q
         · cases q
         · exact q
       exact ret2 h rfl rfl rfl ⟨(.slice none 0 0, 7, []), rfl, (St.addNilb ⟨h.1, h.2.drop 3⟩).2, .inl ⟨rfl, rfl⟩, fun q q1 q2 => by have := hend q q1 q2; rw [this.1] at hne2; exact absurd q2.symm hne2⟩
     ·
      refine c_skip ?_
      refine c_then ?_
      refine c_seq (c_region ?_)
      refine wv h (r_move h rfl) rfl ?_
      clear h a w; intro a w h
      refine wv h (r_assign h rfl) rfl ?_
      clear h a w; intro a w h
      refine wv h (r_assign h rfl) rfl ?_
      clear h a w; intro a w h
      refine wnil (c_then ?_)
      refine c_ret ?_
      have heq2 : deltaN base out = p := Decidable.not_not.1 fun q => ht4 (.inr q)
      have hln : out.length ≤ 900 := by simp at hg; omega
      exact ret2 h rfl rfl rfl ⟨(ov, 0, out), rfl, h.2.drop 2, .inr ⟨rfl, heq2, hln⟩, fun q q1 q2 => ⟨rfl, (hend q q1 q2).1⟩⟩
    ·
     refine c_seq (c_region ?_)
     refine wv h (r_move h rfl) rfl ?_
     clear h a w; intro a w h
     refine wl rfl (op_call h rfl K.go_digit_Eye_End (eye_EndI s _ b st _ 0 rfl h.2) rfl ?_)
     clear h a w; intro x a w hx h
     refine wv h (r_bin h rfl rfl (B.neq_int)) rfl ?_
     clear h a w; intro a w h
     refine wv h (r_move h rfl) rfl ?_
     clear h a w; intro a w h
     refine wvG h (by exact .f rfl) (fun hg => by (have hg2 := hg; (simp only [Bool.and_eq_true, Bool.or_eq_true, Bool.not_eq_true', decide_eq_true_eq, decide_eq_false_iff_not] at hg2)); exact r_move h rfl) rfl ?_
     clear h a w; intro a w h
     refine wvG h (by exact .f rfl) (fun hg => by (simp only [↓gval_on hg, ↓gval_and hg] at h); (have hg2 := hg; (simp only [Bool.and_eq_true, Bool.or_eq_true, Bool.not_eq_true', decide_eq_true_eq, decide_eq_false_iff_not] at hg2)); exact r_lenB h rfl K.u_S_uint8 (by exact ViewsB.own 1 rfl)) rfl ?_
     clear h a w; intro a w h
     refine wvG h (by exact .f rfl) (fun hg => by (simp only [↓gval_on hg, ↓gval_and hg] at h); (have hg2 := hg; (simp only [Bool.and_eq_true, Bool.or_eq_true, Bool.not_eq_true', decide_eq_true_eq, decide_eq_false_iff_not] at hg2)); exact r_bin h rfl rfl (B.gtr_int)) rfl ?_
     clear h a w; intro a w h
     refine wv h (r_pickO h rfl rfl rfl) rfl ?_
     clear h a w; intro a w h
     rw [hg] at h
     refine wv h (r_move h rfl) rfl ?_
     clear h a w; intro a w h
     refine wvG h (by exact .f rfl) (fun hg => by (have hg2 := hg; (simp only [Bool.and_eq_true, Bool.or_eq_true, Bool.not_eq_true', decide_eq_true_eq, decide_eq_false_iff_not] at hg2)); exact r_move h rfl) rfl ?_
     clear h a w; intro a w h
     refine wvG h (by exact .f rfl) (fun hg => by (simp only [↓gval_on hg, ↓gval_and hg] at h); (have hg2 := hg; (simp only [Bool.and_eq_true, Bool.or_eq_true, Bool.not_eq_true', decide_eq_true_eq, decide_eq_false_iff_not] at hg2)); exact r_move h rfl) rfl ?_
     clear h a w; intro a w h
     refine wvS h (.f rfl) rfl rfl ?_
     clear h a w; intro a w h
     refine wvG h (by exact .f rfl) (fun hg => by (simp only [↓gval_on hg, ↓gval_and hg] at h); (have hg2 := hg; (simp only [Bool.and_eq_true, Bool.or_eq_true, Bool.not_eq_true', decide_eq_true_eq, decide_eq_false_iff_not] at hg2)); exact r_move h rfl) rfl ?_
     clear h a w; intro a w h
     refine wvS h (.f rfl) rfl rfl ?_
     clear h a w; intro a w h
     refine wvS h (by exact .f rfl) (by rfl) rfl ?_
     clear h a w; intro a w h
     refine wv h (r_pick_true h rfl rfl) rfl ?_
     clear h a w; intro a w h
     refine wnil (c_then ?_)
     refine c_true h rfl ?_
     refine c_seq (c_region ?_)
     refine wv h (r_assign h rfl) rfl ?_
     clear h a w; intro a w h
     refine wv h (r_assign h rfl) rfl ?_
     clear h a w; intro a w h
     refine wnil (c_then ?_)
     refine c_ret ?_
     exact ret2 h rfl rfl rfl ⟨(.slice none 0 0, 7, []), rfl, (St.addNilb ⟨h.1, h.2.drop 2⟩).2, .inl ⟨rfl, rfl⟩, fun q q1 q2 => by have := hend q q1 q2; exfalso; simp at hg; omega⟩
end Go.Proofs.K

