/- The contracts of package digit: what its functions do to a pen's bytes and to an eye's. -/
import Derived.Test.YtfhlbfalgdipiaaDoorTab
import Derived.Test.YtfhlbfalgdipiaaDoorDigitPure
set_option linter.unusedVariables false
set_option linter.unusedSimpArgs false
set_option maxRecDepth 10000
namespace Go.Proofs.K
open Go.Sl

theorem setSet (vs : Array Value) (k : Nat) (u v : Value) : (vs.setIfInBounds k u).setIfInBounds k v = vs.setIfInBounds k v := by simp
theorem setSelf {vs : Array Value} {k : Nat} {v : Value} (h : vs[k]? = some v) : vs.setIfInBounds k v = vs := by
  apply Array.ext_getElem?
  intro j
  rw [Array.getElem?_setIfInBounds]
  split
  · rename_i e; subst e; split
    · exact h.symm
    · rename_i hh; rw [Array.getElem?_eq_none (by omega)]
  · rfl
theorem getSet {vs : Array Value} {k : Nat} (v : Value) (h : k < vs.size) : (vs.setIfInBounds k v)[k]? = some v := by simp [h]

/-- a number's digits behind a pen's bytes -/
theorem pen_num (s w : World) (b k : Nat) (vs : Array Value) (T : TypeId) (v : Value) (l : List UInt8) (m : Nat) (F : List HItem) (hm : m ≤ 9223372036854775807)
    (hv : vs[k]? = some v) (hl : l.length + 20 ≤ 4294967296) (hs : Sat s w (Blk b (.cells vs T) :: OwnB v l :: F)) :
    Calls P n_digit_Pen_Num #[.pointer (some ⟨b, k, none⟩), .int .i64 (m : Int)] w (Ret s (fun _ => .pointer (some ⟨b, k, none⟩))
      (fun v' => Blk b (.cells (vs.setIfInBounds k v') T) :: OwnB v' (l ++ numN m) :: F) (fun _ => True)) := by
  have hk : k < vs.size := (Array.getElem?_eq_some_iff.1 hv).1
  have hnl := numN_len9 m (by omega)
  have hu0 : (UInt64.ofInt (m : Int)).toNat = m := ofInt_nat m (by omega)
  refine enter K.fn_digit_Pen_Num rfl K.nt_digit_Pen_Num rfl hs ?_
  clear hs w; intro a w h
  refine c_seq (c_region ?_)
  refine wv h (r_assign h rfl) rfl ?_
  clear h a w; intro a w h
  refine wnil (c_then ?_)
  refine c_seq (c_region ?_)
  refine wv h (r_move h rfl) rfl ?_
  clear h a w; intro a w h
  refine wv h (r_conv h rfl K.u_int K.u_uint64 (C.u64_i64) ) rfl ?_
  clear h a w; intro a w h
  refine wv h (r_assign h rfl) rfl ?_
  clear h a w; intro a w h
  refine wnil (c_then ?_)
  refine c_seq ?_
  refine c_block ?_
  refine c_loop (X := UInt64 × Value × List UInt8) (fun x => [(0, .pointer (some ⟨b, k, none⟩)), (5, w64 x.1)]) (fun x => Blk b (.cells (vs.setIfInBounds k x.2.1) T) :: OwnB x.2.1 x.2.2 :: F)
    (fun x => x.2.2 ++ numN x.1.toNat = l ++ numN m ∧ (0 < x.1.toNat ∨ x.1.toNat = m)) (fun x => x.1.toNat) (UInt64.ofInt (m : Int), v, l) (by rw [setSelf hv]; exact h.keep [0, 5]) ⟨by rw [hu0], .inr hu0⟩ ?_
  clear h a w; intro x a w hx h
  obtain ⟨u, vv, l'⟩ := x
  obtain ⟨hx1, hx2⟩ := hx
  simp only at h hx1 hx2
  have hlen := congrArg List.length hx1
  simp only [List.length_append] at hlen
  have hp := numN_len_pos u.toNat
  as_aux_lemma =>
   refine c_seq ?_
   refine c_seq (c_region ?_)
   refine wv h (r_move h rfl) rfl ?_
   clear h a w; intro a w h
   refine wv h (r_bin h rfl rfl (B.geq_u64 (y := 128))) rfl ?_
   clear h a w; intro a w h
   refine wnil (c_then ?_)
   refine c_condD h rfl (fun ht1 => ?_) (fun ht1 => ?_)
   ·
    have ht' : ¬ u.toNat < 128 := by have := UInt64.le_iff_toNat_le.1 ht1; simpa using this
    rw [numN, dif_neg ht'] at hx1
    refine c_skip ?_
    refine c_then ?_
    refine c_seq ?_
    refine c_block ?_
    refine c_region ?_
    refine wv h (r_move h rfl) rfl ?_
    clear h a w; intro a w h
    refine wv h (r_move h rfl) rfl ?_
    clear h a w; intro a w h
    refine wv h (r_nilCheck h rfl) rfl ?_
    clear h a w; intro a w h
    refine wv h (r_fieldAddr0 h rfl K.u_digit_Pen rfl K.sz_S_uint8 rfl rfl) rfl ?_
    clear h a w; intro a w h
    refine wv h (r_load h rfl K.u_S_uint8 rfl 0 rfl (getSet vv hk)) rfl ?_
    clear h a w; intro a w h
    refine wv h (r_move h rfl) rfl ?_
    clear h a w; intro a w h
    refine wv h (r_bin h rfl rfl (B.and_u64 (y := 127))) rfl ?_
    clear h a w; intro a w h
    refine wv h (r_conv h rfl K.u_uint64 K.u_uint8 (C.u8_u64) ) rfl ?_
    clear h a w; intro a w h
    refine wl rfl (op_buildSlice h K.u_S_uint8 K.sz_uint8 K.z_uint8 rfl rfl rfl rfl rfl (by simp [Value.cells, bv, w32, w64, sv]) rfl ?_)
    clear h a w; intro b1 a w h
    refine wl rfl (op_appendb h rfl rfl K.u_S_uint8 K.sz_uint8 K.z_uint8 rfl rfl 1 rfl (by omega) rfl ?_)
    clear h a w; intro v2 a w h
    refine wv h (r_nilCheck h rfl) rfl ?_
    clear h a w; intro a w h
    refine wv h (r_fieldAddr0 h rfl K.u_digit_Pen rfl K.sz_S_uint8 rfl rfl) rfl ?_
    clear h a w; intro a w h
    refine wl rfl (op_store h rfl rfl K.sz_S_uint8 (Views.oneCell (Views.own 1 rfl) h.2) 0 rfl (Nat.ble_eq_true_of_le (by simp; omega)) rfl ?_)
    clear h a w; intro a w h
    refine wnil ?_
    refine b_normal ?_
    refine c_then ?_
    refine c_region ?_
    refine wv h (r_move h rfl) rfl ?_
    clear h a w; intro a w h
    refine wv h (r_bin h rfl rfl (B.shr_u64 (by decide))) rfl ?_
    clear h a w; intro a w h
    refine wv h (r_assign h rfl) rfl ?_
    clear h a w; intro a w h
    refine wnil ?_
    refine ⟨(UInt64.ofNat (u.toNat / 2 ^ (7 : Int).toNat), v2, l' ++ [(u &&& 127).toUInt8]), ?_, ⟨?_, ?_⟩, ?_⟩
    · have := h.keep [0, 5]
      simp only [List.set_cons_zero, List.set_cons_succ, setSet] at this
      exact this
    · show (l' ++ [(u &&& 127).toUInt8]) ++ numN (UInt64.ofNat (u.toNat / 2 ^ (7 : Int).toNat)).toNat = _
      rw [dig_low, dig_next, ← hx1]; simp
    · left
      show 0 < (UInt64.ofNat (u.toNat / 2 ^ (7 : Int).toNat)).toNat
      rw [dig_next]; omega
    · show (UInt64.ofNat (u.toNat / 2 ^ (7 : Int).toNat)).toNat < u.toNat
      rw [dig_next]; omega
   ·
    have ht' : u.toNat < 128 := by
      have := fun h => ht1 (UInt64.le_iff_toNat_le.2 h)
      simpa using this
    rw [numN, dif_pos ht'] at hx1
    refine c_exit ?_
    refine e_then ?_
    refine e_then ?_
    refine e_here ?_
    refine c_then ?_
    refine c_seq (c_region ?_)
    refine wv h (r_move h rfl) rfl ?_
    clear h a w; intro a w h
    refine wv h (r_move h rfl) rfl ?_
    clear h a w; intro a w h
    refine wv h (r_nilCheck h rfl) rfl ?_
    clear h a w; intro a w h
    refine wv h (r_fieldAddr0 h rfl K.u_digit_Pen rfl K.sz_S_uint8 rfl rfl) rfl ?_
    clear h a w; intro a w h
    refine wv h (r_load h rfl K.u_S_uint8 rfl 0 rfl (getSet vv hk)) rfl ?_
    clear h a w; intro a w h
    refine wv h (r_move h rfl) rfl ?_
    clear h a w; intro a w h
    refine wv h (r_conv h rfl K.u_uint64 K.u_uint8 (C.u8_u64) ) rfl ?_
    clear h a w; intro a w h
    refine wv h (r_bin h rfl rfl (B.or_u8 (y := 128))) rfl ?_
    clear h a w; intro a w h
    refine wl rfl (op_buildSlice h K.u_S_uint8 K.sz_uint8 K.z_uint8 rfl rfl rfl rfl rfl (by simp [Value.cells, bv, w32, w64, sv]) rfl ?_)
    clear h a w; intro b1 a w h
    refine wl rfl (op_appendb h rfl rfl K.u_S_uint8 K.sz_uint8 K.z_uint8 rfl rfl 1 rfl (by omega) rfl ?_)
    clear h a w; intro v2 a w h
    refine wv h (r_nilCheck h rfl) rfl ?_
    clear h a w; intro a w h
    refine wv h (r_fieldAddr0 h rfl K.u_digit_Pen rfl K.sz_S_uint8 rfl rfl) rfl ?_
    clear h a w; intro a w h
    refine wl rfl (op_store h rfl rfl K.sz_S_uint8 (Views.oneCell (Views.own 1 rfl) h.2) 0 rfl (Nat.ble_eq_true_of_le (by simp; omega)) rfl ?_)
    clear h a w; intro a w h
    refine wnil (c_then ?_)
    refine c_seq (c_region ?_)
    refine wv h (r_move h rfl) rfl ?_
    clear h a w; intro a w h
    refine wv h (r_assign h rfl) rfl ?_
    clear h a w; intro a w h
    refine wnil (c_then ?_)
    refine c_ret ?_
    have e1 := dig_last u ht'
    refine ret1 h rfl rfl ⟨v2, rfl, ?_, trivial⟩
    have h2 := h.2
    simp only [setSet, List.set_cons_zero, List.set_cons_succ] at h2
    rw [e1, hx1] at h2
    exact h2

theorem pen_raw (s w : World) (b k : Nat) (vs : Array Value) (T : TypeId) (v pv : Value) (l p : List UInt8) (F : List HItem)
    (hv : vs[k]? = some v) (hl : l.length + p.length ≤ 4294967296) (hp : ViewsB F pv p) (hs : Sat s w (Blk b (.cells vs T) :: OwnB v l :: F)) :
    Calls P n_digit_Pen_Raw #[.pointer (some ⟨b, k, none⟩), pv] w (Ret s (fun _ => .pointer (some ⟨b, k, none⟩))
      (fun v' => Blk b (.cells (vs.setIfInBounds k v') T) :: OwnB v' (l ++ p) :: F) (fun _ => True)) := by
  have hk : k < vs.size := (Array.getElem?_eq_some_iff.1 hv).1
  refine enter K.fn_digit_Pen_Raw rfl K.nt_digit_Pen_Raw rfl hs ?_
  clear hs w; intro a w h
  refine c_seq (c_region ?_)
  refine wv h (r_assign h rfl) rfl ?_
  clear h a w; intro a w h
  refine wnil (c_then ?_)
  refine c_seq (c_region ?_)
  refine wv h (r_move h rfl) rfl ?_
  clear h a w; intro a w h
  refine wv h (r_move h rfl) rfl ?_
  clear h a w; intro a w h
  refine wv h (r_nilCheck h rfl) rfl ?_
  clear h a w; intro a w h
  refine wv h (r_fieldAddr0 h rfl K.u_digit_Pen rfl K.sz_S_uint8 rfl rfl) rfl ?_
  clear h a w; intro a w h
  refine wv h (r_load h rfl K.u_S_uint8 rfl 0 rfl hv) rfl ?_
  clear h a w; intro a w h
  refine wv h (r_move h rfl) rfl ?_
  clear h a w; intro a w h
  refine wl rfl (op_appendbs h rfl rfl K.u_S_uint8 K.sz_uint8 K.z_uint8 rfl rfl 1 rfl (Src.bytes K.u_S_uint8 ((hp.cons _).cons _) h.2) hl rfl ?_)
  clear h a w; intro v2 a w h
  refine wv h (r_nilCheck h rfl) rfl ?_
  clear h a w; intro a w h
  refine wv h (r_fieldAddr0 h rfl K.u_digit_Pen rfl K.sz_S_uint8 rfl rfl) rfl ?_
  clear h a w; intro a w h
  refine wl rfl (op_store h rfl rfl K.sz_S_uint8 (Views.oneCell (Views.own 1 rfl) h.2) 0 rfl (Nat.ble_eq_true_of_le hk) rfl ?_)
  clear h a w; intro a w h
  refine wnil (c_then ?_)
  refine c_seq (c_region ?_)
  refine wv h (r_move h rfl) rfl ?_
  clear h a w; intro a w h
  refine wv h (r_assign h rfl) rfl ?_
  clear h a w; intro a w h
  refine wnil (c_then ?_)
  refine c_ret ?_
  exact ret1 h rfl rfl ⟨v2, rfl, h.2, trivial⟩

theorem new_eye (s w : World) (pv : Value) (p : List UInt8) (F : List HItem) (hl : p.length ≤ 4294967296) (hp : ViewsB F pv p) (hs : Sat s w F) :
    Calls P n_digit_NewEye #[pv] w (Ret s (fun x : Nat × Value => .pointer (some ⟨x.1, 0, none⟩)) (fun x => Blk x.1 (.cells #[x.2, .int .i64 0] t_digit_Eye) :: OwnB x.2 p :: F) (fun _ => True)) := by
  refine enter K.fn_digit_NewEye rfl K.nt_digit_NewEye rfl hs ?_
  clear hs w; intro a w h
  refine c_seq (c_region ?_)
  refine wv h (r_assign h rfl) rfl ?_
  clear h a w; intro a w h
  refine wnil (c_then ?_)
  refine c_seq (c_region ?_)
  refine wv h (r_move h rfl) rfl ?_
  clear h a w; intro a w h
  refine wl rfl (op_appendnbs h rfl rfl K.u_S_uint8 K.sz_uint8 K.z_uint8 rfl rfl (Src.bytes K.u_S_uint8 hp h.2) hl rfl ?_)
  clear h a w; intro v2 a w h
  refine wv h (r_build (cells := #[v2, .int .i64 0]) h K.u_digit_Eye K.z_digit_Eye K.pl_digit_Eye rfl ?_) rfl ?_
  · obtain ⟨A, cap, rfl, _⟩ := Views.shape (Views.own 0 rfl) h.2
    rfl
  clear h a w; intro a w h
  refine wl rfl (op_box h rfl rfl ?_)
  clear h a w; intro b a w h
  refine wv h (r_assign h rfl) rfl ?_
  clear h a w; intro a w h
  refine wnil (c_then ?_)
  refine c_ret ?_
  exact ret1 h rfl rfl ⟨(b, v2), rfl, h.2, trivial⟩

/-- a fault, where there is none yet -/
theorem eye_fail0 (s w : World) (b : Nat) (T : TypeId) (pv : Value) (l : List UInt8) (k : Int) (F : List HItem) (hs : Sat s w (Blk b (.cells #[pv, .int .i64 0] T) :: OwnB pv l :: F)) :
    Calls P n_digit_Eye_fail #[.pointer (some ⟨b, 0, none⟩), .int .i64 k] w (Ret s (fun _ : Unit => .tuple #[])
      (fun _ => Blk b (.cells #[.slice none 0 0, .int .i64 k] T) :: OwnB (.slice none 0 0) [] :: F) (fun _ => True)) := by
  refine enter K.fn_digit_Eye_fail rfl K.nt_digit_Eye_fail rfl hs ?_
  clear hs w; intro a w h
  refine c_seq (c_region ?_)
  refine wv h (r_move h rfl) rfl ?_
  clear h a w; intro a w h
  refine wv h (r_nilCheck h rfl) rfl ?_
  clear h a w; intro a w h
  refine wv h (r_fieldAddr h 1 rfl K.u_digit_Eye rfl K.sz_api_Errno rfl rfl) rfl ?_
  clear h a w; intro a w h
  first
    | (refine wv h (r_load h rfl K.u_api_Errno rfl 0 rfl rfl) rfl ?_)
    | (refine wv h (r_load h rfl K.u_api_Errno rfl 1 rfl rfl) rfl ?_)
    | (refine wv h (r_load h rfl K.u_api_Errno rfl 2 rfl rfl) rfl ?_)
    | (refine wv h (r_load h rfl K.u_api_Errno rfl 3 rfl rfl) rfl ?_)
    | (refine wv h (r_load h rfl K.u_api_Errno rfl 4 rfl rfl) rfl ?_)
    | (refine wv h (r_load h rfl K.u_api_Errno rfl 5 rfl rfl) rfl ?_)
    | (refine wv h (r_load1 h rfl K.u_api_Errno rfl (by assumption)) rfl ?_)
  clear h a w; intro a w h
  refine wv h (r_bin h rfl rfl (B.eql_int)) rfl ?_
  clear h a w; intro a w h
  refine wnil (c_then ?_)
  refine c_true h rfl ?_
  refine c_region ?_
  refine wv h (r_move h rfl) rfl ?_
  clear h a w; intro a w h
  refine wv h (r_move h rfl) rfl ?_
  clear h a w; intro a w h
  refine wv h (r_move h rfl) rfl ?_
  clear h a w; intro a w h
  refine wv h (r_nilCheck h rfl) rfl ?_
  clear h a w; intro a w h
  refine wv h (r_fieldAddr h 1 rfl K.u_digit_Eye rfl K.sz_api_Errno rfl rfl) rfl ?_
  clear h a w; intro a w h
  first
    | (refine wl rfl (op_store h rfl rfl K.sz_api_Errno (by first | rfl | exact Views.oneCell (Views.own 0 rfl) h.2 | exact Views.oneCell (Views.own 1 rfl) h.2 | exact Views.oneCell (Views.own 2 rfl) h.2) 0 rfl rfl rfl ?_))
    | (refine wl rfl (op_store h rfl rfl K.sz_api_Errno (by first | rfl | exact Views.oneCell (Views.own 0 rfl) h.2 | exact Views.oneCell (Views.own 1 rfl) h.2 | exact Views.oneCell (Views.own 2 rfl) h.2) 1 rfl rfl rfl ?_))
    | (refine wl rfl (op_store h rfl rfl K.sz_api_Errno (by first | rfl | exact Views.oneCell (Views.own 0 rfl) h.2 | exact Views.oneCell (Views.own 1 rfl) h.2 | exact Views.oneCell (Views.own 2 rfl) h.2) 2 rfl rfl rfl ?_))
    | (refine wl rfl (op_store h rfl rfl K.sz_api_Errno (by first | rfl | exact Views.oneCell (Views.own 0 rfl) h.2 | exact Views.oneCell (Views.own 1 rfl) h.2 | exact Views.oneCell (Views.own 2 rfl) h.2) 3 rfl rfl rfl ?_))
    | (refine wl rfl (op_store h rfl rfl K.sz_api_Errno (by first | rfl | exact Views.oneCell (Views.own 0 rfl) h.2 | exact Views.oneCell (Views.own 1 rfl) h.2 | exact Views.oneCell (Views.own 2 rfl) h.2) 4 rfl rfl rfl ?_))
    | (refine wl rfl (op_store h rfl rfl K.sz_api_Errno (by first | rfl | exact Views.oneCell (Views.own 0 rfl) h.2 | exact Views.oneCell (Views.own 1 rfl) h.2 | exact Views.oneCell (Views.own 2 rfl) h.2) 5 rfl rfl rfl ?_))
  clear h a w; intro a w h
  refine wv h (r_nilCheck h rfl) rfl ?_
  clear h a w; intro a w h
  refine wv h (r_fieldAddr0 h rfl K.u_digit_Eye rfl K.sz_S_uint8 rfl rfl) rfl ?_
  clear h a w; intro a w h
  first
    | (refine wl rfl (op_store h rfl rfl K.sz_S_uint8 (by first | rfl | exact Views.oneCell (Views.own 0 rfl) h.2 | exact Views.oneCell (Views.own 1 rfl) h.2 | exact Views.oneCell (Views.own 2 rfl) h.2) 0 rfl rfl rfl ?_))
    | (refine wl rfl (op_store h rfl rfl K.sz_S_uint8 (by first | rfl | exact Views.oneCell (Views.own 0 rfl) h.2 | exact Views.oneCell (Views.own 1 rfl) h.2 | exact Views.oneCell (Views.own 2 rfl) h.2) 1 rfl rfl rfl ?_))
    | (refine wl rfl (op_store h rfl rfl K.sz_S_uint8 (by first | rfl | exact Views.oneCell (Views.own 0 rfl) h.2 | exact Views.oneCell (Views.own 1 rfl) h.2 | exact Views.oneCell (Views.own 2 rfl) h.2) 2 rfl rfl rfl ?_))
    | (refine wl rfl (op_store h rfl rfl K.sz_S_uint8 (by first | rfl | exact Views.oneCell (Views.own 0 rfl) h.2 | exact Views.oneCell (Views.own 1 rfl) h.2 | exact Views.oneCell (Views.own 2 rfl) h.2) 3 rfl rfl rfl ?_))
    | (refine wl rfl (op_store h rfl rfl K.sz_S_uint8 (by first | rfl | exact Views.oneCell (Views.own 0 rfl) h.2 | exact Views.oneCell (Views.own 1 rfl) h.2 | exact Views.oneCell (Views.own 2 rfl) h.2) 4 rfl rfl rfl ?_))
    | (refine wl rfl (op_store h rfl rfl K.sz_S_uint8 (by first | rfl | exact Views.oneCell (Views.own 0 rfl) h.2 | exact Views.oneCell (Views.own 1 rfl) h.2 | exact Views.oneCell (Views.own 2 rfl) h.2) 5 rfl rfl rfl ?_))
  clear h a w; intro a w h
  refine wnil ?_
  refine end0 h rfl ⟨(), rfl, ?_, trivial⟩
  exact Sat.map (J := OwnB (.slice none 0 0) []) h.2 1 rfl (fun _ _ => ⟨by simp [bs], .inl ⟨rfl, rfl⟩⟩)
theorem eye_fail1 (s w : World) (b : Nat) (T : TypeId) (pv : Value) (l : List UInt8) (e k : Int) (he : e ≠ 0) (F : List HItem) (hs : Sat s w (Blk b (.cells #[pv, .int .i64 e] T) :: OwnB pv l :: F)) :
    Calls P n_digit_Eye_fail #[.pointer (some ⟨b, 0, none⟩), .int .i64 k] w (Ret s (fun _ : Unit => .tuple #[])
      (fun _ => Blk b (.cells #[pv, .int .i64 e] T) :: OwnB pv l :: F) (fun _ => True)) := by
  have hd : decide (e = 0) = false := decide_eq_false he
  refine enter K.fn_digit_Eye_fail rfl K.nt_digit_Eye_fail rfl hs ?_
  clear hs w; intro a w h
  refine c_seq (c_region ?_)
  refine wv h (r_move h rfl) rfl ?_
  clear h a w; intro a w h
  refine wv h (r_nilCheck h rfl) rfl ?_
  clear h a w; intro a w h
  refine wv h (r_fieldAddr h 1 rfl K.u_digit_Eye rfl K.sz_api_Errno rfl rfl) rfl ?_
  clear h a w; intro a w h
  first
    | (refine wv h (r_load h rfl K.u_api_Errno rfl 0 rfl rfl) rfl ?_)
    | (refine wv h (r_load h rfl K.u_api_Errno rfl 1 rfl rfl) rfl ?_)
    | (refine wv h (r_load h rfl K.u_api_Errno rfl 2 rfl rfl) rfl ?_)
    | (refine wv h (r_load h rfl K.u_api_Errno rfl 3 rfl rfl) rfl ?_)
    | (refine wv h (r_load h rfl K.u_api_Errno rfl 4 rfl rfl) rfl ?_)
    | (refine wv h (r_load h rfl K.u_api_Errno rfl 5 rfl rfl) rfl ?_)
    | (refine wv h (r_load1 h rfl K.u_api_Errno rfl (by assumption)) rfl ?_)
  clear h a w; intro a w h
  refine wv h (r_bin h rfl rfl (B.eql_int)) rfl ?_
  clear h a w; intro a w h
  rw [hd] at h
  refine wnil (c_then ?_)
  refine c_false h rfl ?_
  refine c_skip ?_
  exact end0 h rfl ⟨(), rfl, h.2, trivial⟩

theorem key_drop {l : List UInt8} {i : Nat} {x : UInt8} (h : l[i]? = some x) : l.drop i = x :: l.drop (i + 1) := by
  have hlt : i < l.length := (List.getElem?_eq_some_iff.1 h).1
  rw [List.drop_eq_getElem_cons hlt]
  congr 1
  exact (List.getElem?_eq_some_iff.1 h).2

/-- the next number -/
theorem eye_num (s w : World) (b : Nat) (T : TypeId) (pv : Value) (l : List UInt8) (e most : Int) (F : List HItem) (hm1 : -9223372036854775808 ≤ most) (hm2 : most ≤ 9223372036854775807) (hll : l.length ≤ 4294967296)
    (hs : Sat s w (Blk b (.cells #[pv, .int .i64 e] T) :: OwnB pv l :: F)) :
    Calls P n_digit_Eye_Num #[.pointer (some ⟨b, 0, none⟩), .int .i64 most] w (Ret s (fun _ => .int .i64 (eyeNum (e, l) most).1)
      (fun v' => Blk b (.cells #[v', .int .i64 (eyeNum (e, l) most).2.1] T) :: OwnB v' (eyeNum (e, l) most).2.2 :: F) (fun _ => True)) := by
  by_cases he : e = 0
  · subst he
    have hnum : eyeNum (0, l) most = getN l 0 0 most := by simp [eyeNum]
    rw [hnum]
    refine enter K.fn_digit_Eye_Num rfl K.nt_digit_Eye_Num rfl hs ?_
    clear hs w; intro a w h
    refine c_seq (c_region ?_)
    refine wv h (r_assign h rfl) rfl ?_
    clear h a w; intro a w h
    refine wnil (c_then ?_)
    refine c_seq ?_
    refine c_seq (c_region ?_)
    refine wv h (r_move h rfl) rfl ?_
    clear h a w; intro a w h
    refine wv h (r_ptreq_nil h K.u_p_digit_Eye rfl rfl) rfl ?_
    clear h a w; intro a w h
    refine wv h (r_move h rfl) rfl ?_
    clear h a w; intro a w h
    first
        | (refine wvg h (r_move h rfl) rfl rfl ?_)
        | (refine wvs h rfl rfl ?_)
    clear h a w; intro a w h
    first
        | (refine wvg h (r_nilCheck h rfl) rfl rfl ?_)
        | (refine wvs h rfl rfl ?_)
    clear h a w; intro a w h
    first
        | (refine wvg h (r_fieldAddr h 1 rfl K.u_digit_Eye rfl K.sz_api_Errno rfl rfl) rfl rfl ?_)
        | (refine wvs h rfl rfl ?_)
    clear h a w; intro a w h
    first
        | (refine wvg h (r_load h rfl K.u_api_Errno rfl 0 rfl rfl) rfl rfl ?_)
        | (refine wvg h (r_load h rfl K.u_api_Errno rfl 1 rfl rfl) rfl rfl ?_)
        | (refine wvg h (r_load h rfl K.u_api_Errno rfl 2 rfl rfl) rfl rfl ?_)
        | (refine wvg h (r_load h rfl K.u_api_Errno rfl 3 rfl rfl) rfl rfl ?_)
        | (refine wvg h (r_load h rfl K.u_api_Errno rfl 4 rfl rfl) rfl rfl ?_)
        | (refine wvg h (r_load h rfl K.u_api_Errno rfl 5 rfl rfl) rfl rfl ?_)
        | (refine wvg h (r_load1 h rfl K.u_api_Errno rfl (by assumption)) rfl rfl ?_)
        | (refine wvs h rfl rfl ?_)
    clear h a w; intro a w h
    first
        | (refine wvg h (r_bin h rfl rfl (B.neq_int)) rfl rfl ?_)
        | (refine wvs h rfl rfl ?_)
    clear h a w; intro a w h
    have hd0 : decide ((0 : Int) ≠ 0) = false := by decide
    rw [hd0] at h
    first
        | (refine wv h (r_pick_true h rfl rfl) rfl ?_)
        | (refine wv h (r_pick_false h rfl rfl) rfl ?_)
        | (refine wv h (r_pick h rfl rfl rfl) rfl ?_)
    clear h a w; intro a w h
    refine wnil (c_then ?_)
    refine c_false h rfl ?_
    refine c_skip ?_
    refine c_then ?_
    refine c_seq (c_region ?_)
    refine wv h (r_assign h rfl) rfl ?_
    clear h a w; intro a w h
    refine wnil (c_then ?_)
    refine c_seq ?_
    refine c_seq (c_region ?_)
    refine wv h (r_move h rfl) rfl ?_
    clear h a w; intro a w h
    refine wv h (r_nilCheck h rfl) rfl ?_
    clear h a w; intro a w h
    refine wv h (r_fieldAddr0 h rfl K.u_digit_Eye rfl K.sz_S_uint8 rfl rfl) rfl ?_
    clear h a w; intro a w h
    first
        | (refine wv h (r_load h rfl K.u_S_uint8 rfl 0 rfl rfl) rfl ?_)
        | (refine wv h (r_load h rfl K.u_S_uint8 rfl 1 rfl rfl) rfl ?_)
        | (refine wv h (r_load h rfl K.u_S_uint8 rfl 2 rfl rfl) rfl ?_)
        | (refine wv h (r_load h rfl K.u_S_uint8 rfl 3 rfl rfl) rfl ?_)
        | (refine wv h (r_load h rfl K.u_S_uint8 rfl 4 rfl rfl) rfl ?_)
        | (refine wv h (r_load h rfl K.u_S_uint8 rfl 5 rfl rfl) rfl ?_)
        | (refine wv h (r_load1 h rfl K.u_S_uint8 rfl (by assumption)) rfl ?_)
    clear h a w; intro a w h
    refine wv h (r_lenV h rfl K.u_S_uint8 (by first | assumption | exact Views.own 0 rfl | exact Views.own 1 rfl | exact Views.own 2 rfl | exact Views.own 3 rfl)) rfl ?_
    clear h a w; intro a w h
    refine wv h (r_move h rfl) rfl ?_
    clear h a w; intro a w h
    refine wnil (c_then ?_)
    refine c_block ?_
    refine c_loop (X := Nat × UInt64) (fun x => [(0, .pointer (some ⟨b, 0, none⟩)), (1, .int .i64 most), (5, w64 x.2), (20, pv), (21, .int .i64 (l.length : Int)), (22, .int .i64 (x.1 : Int))]) (fun x => Blk b (.cells #[pv, .int .i64 0] T) :: OwnB pv l :: F)
      (fun x => x.1 ≤ l.length ∧ x.1 ≤ 9 ∧ x.2.toNat < 128 ^ x.1 ∧ getN l 0 0 most = getN (l.drop x.1) x.1 x.2.toNat most) (fun x => l.length - x.1) (0, 0) (h.keep [0, 1, 5, 20, 21, 22]) ⟨by omega, by omega, by decide, rfl⟩ ?_
    clear h a w; intro x a w hx h
    obtain ⟨i, u⟩ := x
    obtain ⟨hx1, hx2, hx3, hx4⟩ := hx
    simp only at h hx1 hx2 hx3 hx4
    as_aux_lemma =>
     refine c_seq (c_region ?_)
     refine wv h (r_bin h rfl rfl (B.lss_int)) rfl ?_
     clear h a w; intro a w h
     refine wnil (c_then ?_)
     refine c_seq ?_
     refine c_condD h rfl (fun ht2 => ?_) (fun ht2 => ?_)
     ·
      obtain ⟨c, hc⟩ : ∃ c, l[i]? = some c := ⟨l[i]'(by omega), List.getElem?_eq_getElem (by omega)⟩
      rw [key_drop hc] at hx4
      refine c_skip ?_
      refine c_then ?_
      refine c_seq ?_
      refine c_block ?_
      refine c_seq (c_region ?_)
      refine wv h (r_move h rfl) rfl ?_
      clear h a w; intro a w h
      refine wl rfl (op_indexAddrb h rfl rfl K.u_S_uint8 K.sz_uint8 (ViewsB.own 1 rfl) i rfl hc rfl ?_)
      clear h a w; intro p a w hcc h
      first
            | (refine wv h (r_load h rfl K.u_uint8 rfl 0 rfl rfl) rfl ?_)
            | (refine wv h (r_load h rfl K.u_uint8 rfl 1 rfl rfl) rfl ?_)
            | (refine wv h (r_load h rfl K.u_uint8 rfl 2 rfl rfl) rfl ?_)
            | (refine wv h (r_load h rfl K.u_uint8 rfl 3 rfl rfl) rfl ?_)
            | (refine wv h (r_load h rfl K.u_uint8 rfl 4 rfl rfl) rfl ?_)
            | (refine wv h (r_load h rfl K.u_uint8 rfl 5 rfl rfl) rfl ?_)
            | (refine wv h (r_load1 h rfl K.u_uint8 rfl (by assumption)) rfl ?_)
      clear h a w; intro a w h
      refine wv h (r_assign h rfl) rfl ?_
      clear h a w; intro a w h
      refine wv h (r_assign h rfl) rfl ?_
      clear h a w; intro a w h
      refine wnil (c_then ?_)
      refine c_seq ?_
      refine c_meet h (X := Unit) (fun _ => [(36, .bool (decide (i = 9 ∨ (c = 128 ∧ 0 < i)))), (6, .int .i64 (i : Int)), (7, bv c), (0, .pointer (some ⟨b, 0, none⟩)), (1, .int .i64 most), (5, w64 u), (20, pv), (21, .int .i64 (l.length : Int)), (22, .int .i64 (i : Int))]) (fun _ => Blk b (.cells #[pv, .int .i64 0] T) :: OwnB pv l :: F) (fun _ => True) ?_ ?_
      ·
       have hcases : (∃ q : Bool, decide ((i : Int) = 9) = true ∧ decide (c = 128) = q ∧ decide (i = 9 ∨ (c = 128 ∧ 0 < i)) = true) ∨ (decide ((i : Int) = 9) = false ∧ decide (c = 128) = false ∧ decide (i = 9 ∨ (c = 128 ∧ 0 < i)) = false) ∨ (decide ((i : Int) = 9) = false ∧ decide (c = 128) = true ∧ decide (i = 9 ∨ (c = 128 ∧ 0 < i)) = decide (0 < (i : Int))) := by
         by_cases h9 : i = 9
         · left; exact ⟨_, by simp [h9], rfl, by simp [h9]⟩
         · right
           have h9' : ¬ ((i : Int) = 9) := by omega
           by_cases hc8 : c = 128
           · right; exact ⟨by simp [h9'], by simp [hc8], by simp [h9, hc8]⟩
           · left; exact ⟨by simp [h9'], by simp [hc8], by simp [h9, hc8]⟩
       rcases hcases with ⟨q, hd1, hd2, hd3⟩ | ⟨hd1, hd2, hd3⟩ | ⟨hd1, hd2, hd3⟩
       all_goals
        refine c_region ?_
        refine wv h (r_move h rfl) rfl ?_
        clear h a w; intro a w h
        refine wv h (r_bin h rfl rfl (B.eql_int)) rfl ?_
        clear h a w; intro a w h
        rw [hd1] at h
        refine wv h (r_move h rfl) rfl ?_
        clear h a w; intro a w h
        first
                | (refine wvg h (r_move h rfl) rfl rfl ?_)
                | (refine wvs h rfl rfl ?_)
        clear h a w; intro a w h
        first
                | (refine wvg h (r_bin h rfl rfl (B.eql_u8 (y := 128))) rfl rfl ?_)
                | (refine wvs h rfl rfl ?_)
        clear h a w; intro a w h
        try simp only [hd2] at h
        first
                | (refine wvg h (r_move h rfl) rfl rfl ?_)
                | (refine wvs h rfl rfl ?_)
        clear h a w; intro a w h
        first
                | (refine wvg h (r_move h rfl) rfl rfl ?_)
                | (refine wvs h rfl rfl ?_)
        clear h a w; intro a w h
        first
                | (refine wvg h (r_bin h rfl rfl (B.gtr_int)) rfl rfl ?_)
                | (refine wvs h rfl rfl ?_)
        clear h a w; intro a w h
        first
                | (refine wvg h (r_pick_true h rfl rfl) rfl rfl ?_)
                | (refine wvg h (r_pick_false h rfl rfl) rfl rfl ?_)
                | (refine wvg h (r_pick h rfl rfl rfl) rfl rfl ?_)
                | (refine wvs h rfl rfl ?_)
        clear h a w; intro a w h
        first
                | (refine wv h (r_pick_true h rfl rfl) rfl ?_)
                | (refine wv h (r_pick_false h rfl rfl) rfl ?_)
                | (refine wv h (r_pick h rfl rfl rfl) rfl ?_)
        clear h a w; intro a w h
        refine wnil (c_then ?_)
        rw [hd3]
        exact ⟨(), h.keep [36, 6, 7, 0, 1, 5, 20, 21, 22], trivial⟩
      ·
       clear h a w; intro z a w hz h
       refine c_condD h rfl (fun ht3 => ?_) (fun ht3 => ?_)
       ·
        have hget : getN (c :: l.drop (i + 1)) i u.toNat most = (0, (7, [])) := by simp only [getN]; rw [if_pos ht3]
        rw [hx4, hget]
        as_aux_lemma =>
         refine c_seq (c_region ?_)
         refine wv h (r_move h rfl) rfl ?_
         clear h a w; intro a w h
         refine wl rfl (op_call h rfl K.go_digit_Eye_fail (eye_fail0 s _ b T pv l 7 F h.2) rfl ?_)
         clear h a w; intro x a w hx h
         refine wnil (c_then ?_)
         refine c_seq (c_region ?_)
         refine wv h (r_assign h rfl) rfl ?_
         clear h a w; intro a w h
         refine wnil (c_then ?_)
         refine c_ret ?_
         exact ret1 h rfl rfl ⟨.slice none 0 0, rfl, h.2, trivial⟩
       ·
        have hi9 : i ≤ 8 := by
          have : ¬ i = 9 := fun hh => ht3 (.inl hh)
          omega
        have hnext := digit_lt u.toNat c.toNat i hx3
        have hp : (128 : Nat) ^ (i + 1) ≤ 128 ^ 9 := Nat.pow_le_pow_right (by omega) (by omega)
        have hp2 : (128 : Nat) ^ 9 = 9223372036854775808 := by decide
        refine c_skip ?_
        refine c_then ?_
        refine c_seq (c_region ?_)
        refine wv h (r_move h rfl) rfl ?_
        clear h a w; intro a w h
        refine wv h (r_move h rfl) rfl ?_
        clear h a w; intro a w h
        refine wv h (r_bin h rfl rfl (B.and_u8 (y := 127))) rfl ?_
        clear h a w; intro a w h
        refine wv h (r_conv h rfl K.u_uint8 K.u_uint64 (C.u64_u8) ) rfl ?_
        clear h a w; intro a w h
        refine wv h (r_move h rfl) rfl ?_
        clear h a w; intro a w h
        refine wv h (r_bin h rfl rfl (B.mul_i64 (by omega) (by omega))) rfl ?_
        clear h a w; intro a w h
        refine wv h (r_bin h rfl rfl (B.shl_u64 (by omega))) rfl ?_
        clear h a w; intro a w h
        refine wv h (r_bin h rfl rfl (B.or_u64)) rfl ?_
        clear h a w; intro a w h
        have hval : (u ||| UInt64.ofNat ((c &&& 127).toUInt64.toNat * 2 ^ (7 * (i : Int)).toNat)).toNat = u.toNat + c.toNat % 128 * 128 ^ i := by
          have e0 : (7 * (i : Int)).toNat = 7 * i := by omega
          have e1 : (c &&& 127).toUInt64.toNat = c.toNat % 128 := by
            rw [UInt8.toNat_toUInt64, UInt8.toNat_and]
            exact Nat.and_two_pow_sub_one_eq_mod c.toNat 7
          have e2 : c.toNat % 128 * 2 ^ (7 * i) < 2 ^ 64 := by
            have h128 : (128 : Nat) ^ i = 2 ^ (7 * i) := by rw [Nat.pow_mul]
            rw [← h128]; omega
          rw [UInt64.toNat_or, UInt64.toNat_ofNat', e0, e1, Nat.mod_eq_of_lt e2, or_add _ _ _ hx3]
        generalize (u ||| UInt64.ofNat ((c &&& 127).toUInt64.toNat * 2 ^ (7 * (i : Int)).toNat)) = u2 at h hval
        refine wv h (r_assign h rfl) rfl ?_
        clear h a w; intro a w h
        refine wnil (c_then ?_)
        refine c_seq ?_
        refine c_seq (c_region ?_)
        refine wv h (r_move h rfl) rfl ?_
        clear h a w; intro a w h
        refine wv h (r_bin h rfl rfl (B.lss_u8 (y := 128))) rfl ?_
        clear h a w; intro a w h
        refine wnil (c_then ?_)
        refine c_condD h rfl (fun ht4 => ?_) (fun ht4 => ?_)
        ·
         have hlt8 : c < 128 := ht4
         have hget : getN (c :: l.drop (i + 1)) i u.toNat most = getN (l.drop (i + 1)) (i + 1) u2.toNat most := by
           simp only [getN]; rw [if_neg ht3, if_pos hlt8, hval]
         as_aux_lemma =>
          refine c_exit ?_
          refine e_then ?_
          refine e_here ?_
          refine c_then ?_
          refine c_region ?_
          refine wv h (r_bin h rfl rfl (B.add_i64 (by omega) (by omega))) rfl ?_
          clear h a w; intro a w h
          refine wv h (r_move h rfl) rfl ?_
          clear h a w; intro a w h
          refine wnil ?_
          exact ⟨(i + 1, u2), h.keep [0, 1, 5, 20, 21, 22], ⟨by simp only; omega, by simp only; omega, by simp only; omega, by simp only; rw [hx4, hget]⟩, by simp only; omega⟩
        ·
         have hge8 : ¬ c < 128 := ht4
         have hgt : (UInt64.ofInt (max most 0) < u2) ↔ max most 0 < ((u.toNat + c.toNat % 128 * 128 ^ i : Nat) : Int) := by
           have e3 : (UInt64.ofInt (max most 0)).toNat = (max most 0).toNat := by
             have : max most 0 = ((max most 0).toNat : Int) := by omega
             rw [this, ofInt_nat _ (by omega)]; omega
           rw [UInt64.lt_iff_toNat_lt, e3, hval]; omega
         refine c_skip ?_
         refine c_then ?_
         refine c_seq ?_
         refine c_seq (c_region ?_)
         refine wv h (r_move h rfl) rfl ?_
         clear h a w; intro a w h
         refine wv h (r_move h rfl) rfl ?_
         clear h a w; intro a w h
         refine wv h (r_max2 h rfl rfl) rfl ?_
         clear h a w; intro a w h
         refine wv h (r_conv h rfl K.u_int K.u_uint64 (C.u64_i64) ) rfl ?_
         clear h a w; intro a w h
         refine wv h (r_bin h rfl rfl (B.gtr_u64)) rfl ?_
         clear h a w; intro a w h
         refine wnil (c_then ?_)
         refine c_condD h rfl (fun ht5 => ?_) (fun ht5 => ?_)
         ·
          have hget : getN (c :: l.drop (i + 1)) i u.toNat most = (0, (5, [])) := by
            simp only [getN]; rw [if_neg ht3, if_neg hge8, if_pos (hgt.1 ht5)]
          rw [hx4, hget]
          as_aux_lemma =>
           refine c_seq (c_region ?_)
           refine wv h (r_move h rfl) rfl ?_
           clear h a w; intro a w h
           refine wl rfl (op_call h rfl K.go_digit_Eye_fail (eye_fail0 s _ b T pv l 5 F h.2) rfl ?_)
           clear h a w; intro x a w hx h
           refine wnil (c_then ?_)
           refine c_seq (c_region ?_)
           refine wv h (r_assign h rfl) rfl ?_
           clear h a w; intro a w h
           refine wnil (c_then ?_)
           refine c_ret ?_
           exact ret1 h rfl rfl ⟨.slice none 0 0, rfl, h.2, trivial⟩
         ·
          have hget : getN (c :: l.drop (i + 1)) i u.toNat most = (((u.toNat + c.toNat % 128 * 128 ^ i : Nat) : Int), (0, l.drop (i + 1))) := by
            simp only [getN]; rw [if_neg ht3, if_neg hge8, if_neg (fun hh => ht5 (hgt.2 hh))]
          rw [hx4, hget]
          refine c_skip ?_
          refine c_then ?_
          refine c_seq (c_region ?_)
          refine wv h (r_move h rfl) rfl ?_
          clear h a w; intro a w h
          refine wv h (r_move h rfl) rfl ?_
          clear h a w; intro a w h
          refine wv h (r_nilCheck h rfl) rfl ?_
          clear h a w; intro a w h
          refine wv h (r_fieldAddr0 h rfl K.u_digit_Eye rfl K.sz_S_uint8 rfl rfl) rfl ?_
          clear h a w; intro a w h
          first
                    | (refine wv h (r_load h rfl K.u_S_uint8 rfl 0 rfl rfl) rfl ?_)
                    | (refine wv h (r_load h rfl K.u_S_uint8 rfl 1 rfl rfl) rfl ?_)
                    | (refine wv h (r_load h rfl K.u_S_uint8 rfl 2 rfl rfl) rfl ?_)
                    | (refine wv h (r_load h rfl K.u_S_uint8 rfl 3 rfl rfl) rfl ?_)
                    | (refine wv h (r_load h rfl K.u_S_uint8 rfl 4 rfl rfl) rfl ?_)
                    | (refine wv h (r_load h rfl K.u_S_uint8 rfl 5 rfl rfl) rfl ?_)
                    | (refine wv h (r_load1 h rfl K.u_S_uint8 rfl (by assumption)) rfl ?_)
          clear h a w; intro a w h
          refine wv h (r_move h rfl) rfl ?_
          clear h a w; intro a w h
          refine wv h (r_bin h rfl rfl (B.add_i64 (by omega) (by omega))) rfl ?_
          clear h a w; intro a w h
          refine wl rfl (op_sliceOwnb h rfl K.u_S_uint8 K.sz_uint8 1 rfl (i + 1) l.length ⟨_, rfl⟩ rfl (by omega) (by omega) rfl ?_)
          clear h a w; intro v2 a w h
          refine wv h (r_nilCheck h rfl) rfl ?_
          clear h a w; intro a w h
          refine wv h (r_fieldAddr0 h rfl K.u_digit_Eye rfl K.sz_S_uint8 rfl rfl) rfl ?_
          clear h a w; intro a w h
          first
                    | (refine wl rfl (op_store h rfl rfl K.sz_S_uint8 (by first | rfl | exact Views.oneCell (Views.own 0 rfl) h.2 | exact Views.oneCell (Views.own 1 rfl) h.2 | exact Views.oneCell (Views.own 2 rfl) h.2) 0 rfl rfl rfl ?_))
                    | (refine wl rfl (op_store h rfl rfl K.sz_S_uint8 (by first | rfl | exact Views.oneCell (Views.own 0 rfl) h.2 | exact Views.oneCell (Views.own 1 rfl) h.2 | exact Views.oneCell (Views.own 2 rfl) h.2) 1 rfl rfl rfl ?_))
                    | (refine wl rfl (op_store h rfl rfl K.sz_S_uint8 (by first | rfl | exact Views.oneCell (Views.own 0 rfl) h.2 | exact Views.oneCell (Views.own 1 rfl) h.2 | exact Views.oneCell (Views.own 2 rfl) h.2) 2 rfl rfl rfl ?_))
                    | (refine wl rfl (op_store h rfl rfl K.sz_S_uint8 (by first | rfl | exact Views.oneCell (Views.own 0 rfl) h.2 | exact Views.oneCell (Views.own 1 rfl) h.2 | exact Views.oneCell (Views.own 2 rfl) h.2) 3 rfl rfl rfl ?_))
                    | (refine wl rfl (op_store h rfl rfl K.sz_S_uint8 (by first | rfl | exact Views.oneCell (Views.own 0 rfl) h.2 | exact Views.oneCell (Views.own 1 rfl) h.2 | exact Views.oneCell (Views.own 2 rfl) h.2) 4 rfl rfl rfl ?_))
                    | (refine wl rfl (op_store h rfl rfl K.sz_S_uint8 (by first | rfl | exact Views.oneCell (Views.own 0 rfl) h.2 | exact Views.oneCell (Views.own 1 rfl) h.2 | exact Views.oneCell (Views.own 2 rfl) h.2) 5 rfl rfl rfl ?_))
          clear h a w; intro a w h
          refine wnil (c_then ?_)
          refine c_seq (c_region ?_)
          refine wv h (r_move h rfl) rfl ?_
          clear h a w; intro a w h
          refine wv h (r_conv h rfl K.u_uint64 K.u_int (C.i64_u64 (by omega))) rfl ?_
          clear h a w; intro a w h
          refine wv h (r_assign h rfl) rfl ?_
          clear h a w; intro a w h
          refine wnil (c_then ?_)
          refine c_ret ?_
          refine ret1 h rfl rfl ⟨v2, ?_, ?_, trivial⟩
          · rw [hval]
          · have h2 := h.2
            have e4 : (l.drop (i + 1)).take (l.length - (i + 1)) = l.drop (i + 1) := List.take_of_length_le (by simp)
            simp only [List.set_cons_zero, List.set_cons_succ, e4] at h2
            exact h2
     ·
      have hiN : i = l.length := by omega
      have hget : getN (l.drop i) i u.toNat most = (0, (6, [])) := by rw [hiN, List.drop_length]; rfl
      rw [hx4, hget]
      refine c_exit ?_
      refine e_then ?_
      refine e_then ?_
      refine e_here ?_
      refine c_then ?_
      refine c_seq (c_region ?_)
      refine wv h (r_move h rfl) rfl ?_
      clear h a w; intro a w h
      refine wl rfl (op_call h rfl K.go_digit_Eye_fail (eye_fail0 s _ b T pv l 6 F h.2) rfl ?_)
      clear h a w; intro x a w hx h
      refine wnil (c_then ?_)
      refine c_seq (c_region ?_)
      refine wv h (r_assign h rfl) rfl ?_
      clear h a w; intro a w h
      refine wnil (c_then ?_)
      refine c_ret ?_
      exact ret1 h rfl rfl ⟨.slice none 0 0, rfl, h.2, trivial⟩
  · have hnum : eyeNum (e, l) most = (0, (e, l)) := by simp [eyeNum, he]
    have hd : decide (e ≠ 0) = true := decide_eq_true he
    rw [hnum]
    refine enter K.fn_digit_Eye_Num rfl K.nt_digit_Eye_Num rfl hs ?_
    clear hs w; intro a w h
    refine c_seq (c_region ?_)
    refine wv h (r_assign h rfl) rfl ?_
    clear h a w; intro a w h
    refine wnil (c_then ?_)
    refine c_seq ?_
    refine c_seq (c_region ?_)
    refine wv h (r_move h rfl) rfl ?_
    clear h a w; intro a w h
    refine wv h (r_ptreq_nil h K.u_p_digit_Eye rfl rfl) rfl ?_
    clear h a w; intro a w h
    refine wv h (r_move h rfl) rfl ?_
    clear h a w; intro a w h
    first
        | (refine wvg h (r_move h rfl) rfl rfl ?_)
        | (refine wvs h rfl rfl ?_)
    clear h a w; intro a w h
    first
        | (refine wvg h (r_nilCheck h rfl) rfl rfl ?_)
        | (refine wvs h rfl rfl ?_)
    clear h a w; intro a w h
    first
        | (refine wvg h (r_fieldAddr h 1 rfl K.u_digit_Eye rfl K.sz_api_Errno rfl rfl) rfl rfl ?_)
        | (refine wvs h rfl rfl ?_)
    clear h a w; intro a w h
    first
        | (refine wvg h (r_load h rfl K.u_api_Errno rfl 0 rfl rfl) rfl rfl ?_)
        | (refine wvg h (r_load h rfl K.u_api_Errno rfl 1 rfl rfl) rfl rfl ?_)
        | (refine wvg h (r_load h rfl K.u_api_Errno rfl 2 rfl rfl) rfl rfl ?_)
        | (refine wvg h (r_load h rfl K.u_api_Errno rfl 3 rfl rfl) rfl rfl ?_)
        | (refine wvg h (r_load h rfl K.u_api_Errno rfl 4 rfl rfl) rfl rfl ?_)
        | (refine wvg h (r_load h rfl K.u_api_Errno rfl 5 rfl rfl) rfl rfl ?_)
        | (refine wvg h (r_load1 h rfl K.u_api_Errno rfl (by assumption)) rfl rfl ?_)
        | (refine wvs h rfl rfl ?_)
    clear h a w; intro a w h
    first
        | (refine wvg h (r_bin h rfl rfl (B.neq_int)) rfl rfl ?_)
        | (refine wvs h rfl rfl ?_)
    clear h a w; intro a w h
    rw [hd] at h
    first
        | (refine wv h (r_pick_true h rfl rfl) rfl ?_)
        | (refine wv h (r_pick_false h rfl rfl) rfl ?_)
        | (refine wv h (r_pick h rfl rfl rfl) rfl ?_)
    clear h a w; intro a w h
    refine wnil (c_then ?_)
    refine c_true h rfl ?_
    refine c_seq (c_region ?_)
    refine wv h (r_assign h rfl) rfl ?_
    clear h a w; intro a w h
    refine wnil (c_then ?_)
    refine c_ret ?_
    exact ret1 h rfl rfl ⟨pv, rfl, h.2, trivial⟩

theorem eye_raw (s w : World) (b : Nat) (T : TypeId) (pv : Value) (l : List UInt8) (e m : Int) (F : List HItem) (hll : l.length ≤ 4294967296)
    (hs : Sat s w (Blk b (.cells #[pv, .int .i64 e] T) :: OwnB pv l :: F)) :
    Calls P n_digit_Eye_Raw #[.pointer (some ⟨b, 0, none⟩), .int .i64 m] w (Ret s (fun x : Value × Value => x.2)
      (fun x => OwnB x.2 (eyeRaw (e, l) m).1 :: Blk b (.cells #[x.1, .int .i64 (eyeRaw (e, l) m).2.1] T) :: OwnB x.1 (eyeRaw (e, l) m).2.2 :: F) (fun _ => True)) := by
  by_cases he : e = 0
  · subst he
    by_cases hm : m ≤ 0
    · have hr : eyeRaw (0, l) m = ([], (0, l)) := by simp [eyeRaw, hm]
      rw [hr]
      refine enter K.fn_digit_Eye_Raw rfl K.nt_digit_Eye_Raw rfl hs ?_
      clear hs w; intro a w h
      refine c_seq (c_region ?_)
      refine wv h (r_assign h rfl) rfl ?_
      clear h a w; intro a w h
      refine wnil (c_then ?_)
      refine c_seq ?_
      refine c_seq (c_region ?_)
      refine wv h (r_move h rfl) rfl ?_
      clear h a w; intro a w h
      refine wv h (r_ptreq_nil h K.u_p_digit_Eye rfl rfl) rfl ?_
      clear h a w; intro a w h
      refine wv h (r_move h rfl) rfl ?_
      clear h a w; intro a w h
      first
            | (refine wvg h (r_move h rfl) rfl rfl ?_)
            | (refine wvs h rfl rfl ?_)
      clear h a w; intro a w h
      first
            | (refine wvg h (r_nilCheck h rfl) rfl rfl ?_)
            | (refine wvs h rfl rfl ?_)
      clear h a w; intro a w h
      first
            | (refine wvg h (r_fieldAddr h 1 rfl K.u_digit_Eye rfl K.sz_api_Errno rfl rfl) rfl rfl ?_)
            | (refine wvs h rfl rfl ?_)
      clear h a w; intro a w h
      first
            | (refine wvg h (r_load h rfl K.u_api_Errno rfl 0 rfl rfl) rfl rfl ?_)
            | (refine wvg h (r_load h rfl K.u_api_Errno rfl 1 rfl rfl) rfl rfl ?_)
            | (refine wvg h (r_load h rfl K.u_api_Errno rfl 2 rfl rfl) rfl rfl ?_)
            | (refine wvg h (r_load h rfl K.u_api_Errno rfl 3 rfl rfl) rfl rfl ?_)
            | (refine wvg h (r_load h rfl K.u_api_Errno rfl 4 rfl rfl) rfl rfl ?_)
            | (refine wvg h (r_load h rfl K.u_api_Errno rfl 5 rfl rfl) rfl rfl ?_)
            | (refine wvg h (r_load1 h rfl K.u_api_Errno rfl (by assumption)) rfl rfl ?_)
            | (refine wvs h rfl rfl ?_)
      clear h a w; intro a w h
      first
            | (refine wvg h (r_bin h rfl rfl (B.neq_int)) rfl rfl ?_)
            | (refine wvs h rfl rfl ?_)
      clear h a w; intro a w h
      have hd0 : decide ((0 : Int) ≠ 0) = false := by decide
      rw [hd0] at h
      first
            | (refine wv h (r_pick_true h rfl rfl) rfl ?_)
            | (refine wv h (r_pick_false h rfl rfl) rfl ?_)
            | (refine wv h (r_pick h rfl rfl rfl) rfl ?_)
      clear h a w; intro a w h
      refine wv h (r_move h rfl) rfl ?_
      clear h a w; intro a w h
      first
            | (refine wvg h (r_move h rfl) rfl rfl ?_)
            | (refine wvs h rfl rfl ?_)
      clear h a w; intro a w h
      first
            | (refine wvg h (r_bin h rfl rfl (B.leq_int)) rfl rfl ?_)
            | (refine wvs h rfl rfl ?_)
      clear h a w; intro a w h
      have hd1 : decide (m ≤ 0) = true := decide_eq_true hm
      rw [hd1] at h
      first
            | (refine wv h (r_pick_true h rfl rfl) rfl ?_)
            | (refine wv h (r_pick_false h rfl rfl) rfl ?_)
            | (refine wv h (r_pick h rfl rfl rfl) rfl ?_)
      clear h a w; intro a w h
      refine wnil (c_then ?_)
      refine c_true h rfl ?_
      refine c_seq (c_region ?_)
      refine wv h (r_assign h rfl) rfl ?_
      clear h a w; intro a w h
      refine wnil (c_then ?_)
      refine c_ret ?_
      exact ret1 h rfl rfl ⟨(pv, .slice none 0 0), rfl, h.addNilb.2, trivial⟩
    · by_cases hlt : (l.length : Int) < m
      · have hr : eyeRaw (0, l) m = ([], (6, [])) := by simp [eyeRaw, hm, hlt]
        rw [hr]
        refine enter K.fn_digit_Eye_Raw rfl K.nt_digit_Eye_Raw rfl hs ?_
        clear hs w; intro a w h
        refine c_seq (c_region ?_)
        refine wv h (r_assign h rfl) rfl ?_
        clear h a w; intro a w h
        refine wnil (c_then ?_)
        refine c_seq ?_
        refine c_seq (c_region ?_)
        refine wv h (r_move h rfl) rfl ?_
        clear h a w; intro a w h
        refine wv h (r_ptreq_nil h K.u_p_digit_Eye rfl rfl) rfl ?_
        clear h a w; intro a w h
        refine wv h (r_move h rfl) rfl ?_
        clear h a w; intro a w h
        first
                | (refine wvg h (r_move h rfl) rfl rfl ?_)
                | (refine wvs h rfl rfl ?_)
        clear h a w; intro a w h
        first
                | (refine wvg h (r_nilCheck h rfl) rfl rfl ?_)
                | (refine wvs h rfl rfl ?_)
        clear h a w; intro a w h
        first
                | (refine wvg h (r_fieldAddr h 1 rfl K.u_digit_Eye rfl K.sz_api_Errno rfl rfl) rfl rfl ?_)
                | (refine wvs h rfl rfl ?_)
        clear h a w; intro a w h
        first
                | (refine wvg h (r_load h rfl K.u_api_Errno rfl 0 rfl rfl) rfl rfl ?_)
                | (refine wvg h (r_load h rfl K.u_api_Errno rfl 1 rfl rfl) rfl rfl ?_)
                | (refine wvg h (r_load h rfl K.u_api_Errno rfl 2 rfl rfl) rfl rfl ?_)
                | (refine wvg h (r_load h rfl K.u_api_Errno rfl 3 rfl rfl) rfl rfl ?_)
                | (refine wvg h (r_load h rfl K.u_api_Errno rfl 4 rfl rfl) rfl rfl ?_)
                | (refine wvg h (r_load h rfl K.u_api_Errno rfl 5 rfl rfl) rfl rfl ?_)
                | (refine wvg h (r_load1 h rfl K.u_api_Errno rfl (by assumption)) rfl rfl ?_)
                | (refine wvs h rfl rfl ?_)
        clear h a w; intro a w h
        first
                | (refine wvg h (r_bin h rfl rfl (B.neq_int)) rfl rfl ?_)
                | (refine wvs h rfl rfl ?_)
        clear h a w; intro a w h
        have hd0 : decide ((0 : Int) ≠ 0) = false := by decide
        rw [hd0] at h
        first
                | (refine wv h (r_pick_true h rfl rfl) rfl ?_)
                | (refine wv h (r_pick_false h rfl rfl) rfl ?_)
                | (refine wv h (r_pick h rfl rfl rfl) rfl ?_)
        clear h a w; intro a w h
        refine wv h (r_move h rfl) rfl ?_
        clear h a w; intro a w h
        first
                | (refine wvg h (r_move h rfl) rfl rfl ?_)
                | (refine wvs h rfl rfl ?_)
        clear h a w; intro a w h
        first
                | (refine wvg h (r_bin h rfl rfl (B.leq_int)) rfl rfl ?_)
                | (refine wvs h rfl rfl ?_)
        clear h a w; intro a w h
        have hd1 : decide (m ≤ 0) = false := decide_eq_false hm
        rw [hd1] at h
        first
                | (refine wv h (r_pick_true h rfl rfl) rfl ?_)
                | (refine wv h (r_pick_false h rfl rfl) rfl ?_)
                | (refine wv h (r_pick h rfl rfl rfl) rfl ?_)
        clear h a w; intro a w h
        refine wnil (c_then ?_)
        refine c_false h rfl ?_
        refine c_skip ?_
        refine c_then ?_
        refine c_seq ?_
        refine c_seq (c_region ?_)
        refine wv h (r_move h rfl) rfl ?_
        clear h a w; intro a w h
        refine wv h (r_move h rfl) rfl ?_
        clear h a w; intro a w h
        refine wv h (r_nilCheck h rfl) rfl ?_
        clear h a w; intro a w h
        refine wv h (r_fieldAddr0 h rfl K.u_digit_Eye rfl K.sz_S_uint8 rfl rfl) rfl ?_
        clear h a w; intro a w h
        first
                | (refine wv h (r_load h rfl K.u_S_uint8 rfl 0 rfl rfl) rfl ?_)
                | (refine wv h (r_load h rfl K.u_S_uint8 rfl 1 rfl rfl) rfl ?_)
                | (refine wv h (r_load h rfl K.u_S_uint8 rfl 2 rfl rfl) rfl ?_)
                | (refine wv h (r_load h rfl K.u_S_uint8 rfl 3 rfl rfl) rfl ?_)
                | (refine wv h (r_load h rfl K.u_S_uint8 rfl 4 rfl rfl) rfl ?_)
                | (refine wv h (r_load h rfl K.u_S_uint8 rfl 5 rfl rfl) rfl ?_)
                | (refine wv h (r_load1 h rfl K.u_S_uint8 rfl (by assumption)) rfl ?_)
        clear h a w; intro a w h
        refine wv h (r_lenB h rfl K.u_S_uint8 (ViewsB.own 1 rfl)) rfl ?_
        clear h a w; intro a w h
        refine wv h (r_bin h rfl rfl (B.gtr_int)) rfl ?_
        clear h a w; intro a w h
        have hd2 : decide ((l.length : Int) < m) = true := decide_eq_true hlt
        rw [hd2] at h
        refine wnil (c_then ?_)
        refine c_true h rfl ?_
        refine c_seq (c_region ?_)
        refine wv h (r_move h rfl) rfl ?_
        clear h a w; intro a w h
        refine wl rfl (op_call h rfl K.go_digit_Eye_fail (eye_fail0 s _ b T pv l 6 F h.2) rfl ?_)
        clear h a w; intro x a w hx h
        refine wnil (c_then ?_)
        refine c_seq (c_region ?_)
        refine wv h (r_assign h rfl) rfl ?_
        clear h a w; intro a w h
        refine wnil (c_then ?_)
        refine c_ret ?_
        exact ret1 h rfl rfl ⟨(.slice none 0 0, .slice none 0 0), rfl, h.addNilb.2, trivial⟩
      · have hr : eyeRaw (0, l) m = (l.take m.toNat, (0, l.drop m.toNat)) := by simp [eyeRaw, hm, hlt]
        rw [hr]
        obtain ⟨k, rfl⟩ : ∃ k : Nat, m = k := ⟨m.toNat, by omega⟩
        have htl : (l.take k).length = k := by rw [List.length_take]; omega
        refine enter K.fn_digit_Eye_Raw rfl K.nt_digit_Eye_Raw rfl hs ?_
        clear hs w; intro a w h
        refine c_seq (c_region ?_)
        refine wv h (r_assign h rfl) rfl ?_
        clear h a w; intro a w h
        refine wnil (c_then ?_)
        refine c_seq ?_
        refine c_seq (c_region ?_)
        refine wv h (r_move h rfl) rfl ?_
        clear h a w; intro a w h
        refine wv h (r_ptreq_nil h K.u_p_digit_Eye rfl rfl) rfl ?_
        clear h a w; intro a w h
        refine wv h (r_move h rfl) rfl ?_
        clear h a w; intro a w h
        first
                | (refine wvg h (r_move h rfl) rfl rfl ?_)
                | (refine wvs h rfl rfl ?_)
        clear h a w; intro a w h
        first
                | (refine wvg h (r_nilCheck h rfl) rfl rfl ?_)
                | (refine wvs h rfl rfl ?_)
        clear h a w; intro a w h
        first
                | (refine wvg h (r_fieldAddr h 1 rfl K.u_digit_Eye rfl K.sz_api_Errno rfl rfl) rfl rfl ?_)
                | (refine wvs h rfl rfl ?_)
        clear h a w; intro a w h
        first
                | (refine wvg h (r_load h rfl K.u_api_Errno rfl 0 rfl rfl) rfl rfl ?_)
                | (refine wvg h (r_load h rfl K.u_api_Errno rfl 1 rfl rfl) rfl rfl ?_)
                | (refine wvg h (r_load h rfl K.u_api_Errno rfl 2 rfl rfl) rfl rfl ?_)
                | (refine wvg h (r_load h rfl K.u_api_Errno rfl 3 rfl rfl) rfl rfl ?_)
                | (refine wvg h (r_load h rfl K.u_api_Errno rfl 4 rfl rfl) rfl rfl ?_)
                | (refine wvg h (r_load h rfl K.u_api_Errno rfl 5 rfl rfl) rfl rfl ?_)
                | (refine wvg h (r_load1 h rfl K.u_api_Errno rfl (by assumption)) rfl rfl ?_)
                | (refine wvs h rfl rfl ?_)
        clear h a w; intro a w h
        first
                | (refine wvg h (r_bin h rfl rfl (B.neq_int)) rfl rfl ?_)
                | (refine wvs h rfl rfl ?_)
        clear h a w; intro a w h
        have hd0 : decide ((0 : Int) ≠ 0) = false := by decide
        rw [hd0] at h
        first
                | (refine wv h (r_pick_true h rfl rfl) rfl ?_)
                | (refine wv h (r_pick_false h rfl rfl) rfl ?_)
                | (refine wv h (r_pick h rfl rfl rfl) rfl ?_)
        clear h a w; intro a w h
        refine wv h (r_move h rfl) rfl ?_
        clear h a w; intro a w h
        first
                | (refine wvg h (r_move h rfl) rfl rfl ?_)
                | (refine wvs h rfl rfl ?_)
        clear h a w; intro a w h
        first
                | (refine wvg h (r_bin h rfl rfl (B.leq_int)) rfl rfl ?_)
                | (refine wvs h rfl rfl ?_)
        clear h a w; intro a w h
        have hd1 : decide ((k : Int) ≤ 0) = false := decide_eq_false hm
        rw [hd1] at h
        first
                | (refine wv h (r_pick_true h rfl rfl) rfl ?_)
                | (refine wv h (r_pick_false h rfl rfl) rfl ?_)
                | (refine wv h (r_pick h rfl rfl rfl) rfl ?_)
        clear h a w; intro a w h
        refine wnil (c_then ?_)
        refine c_false h rfl ?_
        refine c_skip ?_
        refine c_then ?_
        refine c_seq ?_
        refine c_seq (c_region ?_)
        refine wv h (r_move h rfl) rfl ?_
        clear h a w; intro a w h
        refine wv h (r_move h rfl) rfl ?_
        clear h a w; intro a w h
        refine wv h (r_nilCheck h rfl) rfl ?_
        clear h a w; intro a w h
        refine wv h (r_fieldAddr0 h rfl K.u_digit_Eye rfl K.sz_S_uint8 rfl rfl) rfl ?_
        clear h a w; intro a w h
        first
                | (refine wv h (r_load h rfl K.u_S_uint8 rfl 0 rfl rfl) rfl ?_)
                | (refine wv h (r_load h rfl K.u_S_uint8 rfl 1 rfl rfl) rfl ?_)
                | (refine wv h (r_load h rfl K.u_S_uint8 rfl 2 rfl rfl) rfl ?_)
                | (refine wv h (r_load h rfl K.u_S_uint8 rfl 3 rfl rfl) rfl ?_)
                | (refine wv h (r_load h rfl K.u_S_uint8 rfl 4 rfl rfl) rfl ?_)
                | (refine wv h (r_load h rfl K.u_S_uint8 rfl 5 rfl rfl) rfl ?_)
                | (refine wv h (r_load1 h rfl K.u_S_uint8 rfl (by assumption)) rfl ?_)
        clear h a w; intro a w h
        refine wv h (r_lenB h rfl K.u_S_uint8 (ViewsB.own 1 rfl)) rfl ?_
        clear h a w; intro a w h
        refine wv h (r_bin h rfl rfl (B.gtr_int)) rfl ?_
        clear h a w; intro a w h
        have hd2 : decide ((l.length : Int) < (k : Int)) = false := decide_eq_false hlt
        rw [hd2] at h
        refine wnil (c_then ?_)
        refine c_false h rfl ?_
        refine c_skip ?_
        refine c_then ?_
        refine c_seq (c_region ?_)
        refine wv h (r_move h rfl) rfl ?_
        clear h a w; intro a w h
        refine wv h (r_nilCheck h rfl) rfl ?_
        clear h a w; intro a w h
        refine wv h (r_fieldAddr0 h rfl K.u_digit_Eye rfl K.sz_S_uint8 rfl rfl) rfl ?_
        clear h a w; intro a w h
        first
                | (refine wv h (r_load h rfl K.u_S_uint8 rfl 0 rfl rfl) rfl ?_)
                | (refine wv h (r_load h rfl K.u_S_uint8 rfl 1 rfl rfl) rfl ?_)
                | (refine wv h (r_load h rfl K.u_S_uint8 rfl 2 rfl rfl) rfl ?_)
                | (refine wv h (r_load h rfl K.u_S_uint8 rfl 3 rfl rfl) rfl ?_)
                | (refine wv h (r_load h rfl K.u_S_uint8 rfl 4 rfl rfl) rfl ?_)
                | (refine wv h (r_load h rfl K.u_S_uint8 rfl 5 rfl rfl) rfl ?_)
                | (refine wv h (r_load1 h rfl K.u_S_uint8 rfl (by assumption)) rfl ?_)
        clear h a w; intro a w h
        refine wv h (r_move h rfl) rfl ?_
        clear h a w; intro a w h
        refine wv h (r_sliceB h rfl K.u_S_uint8 K.sz_uint8 (ViewsB.own 1 rfl) 0 k rfl ⟨_, rfl⟩ (by omega) (by omega)) rfl ?_
        clear h a w; intro a w h
        have hvv : ViewsB (Blk b (.cells #[pv, .int .i64 0] T) :: OwnB pv l :: F) (subV 1 pv 0 k) (l.take k) := by
          have := ViewsB.sub (ViewsB.own (L := Blk b (.cells #[pv, .int .i64 0] T) :: OwnB pv l :: F) 1 rfl) (i := 0) (j := k) (by omega) (by omega)
          simpa using this
        refine wl rfl (op_appendnbs h rfl rfl K.u_S_uint8 K.sz_uint8 K.z_uint8 rfl rfl (Src.bytes K.u_S_uint8 hvv h.2) (by omega) rfl ?_)
        clear h a w; intro v2 a w h
        refine wv h (r_assign h rfl) rfl ?_
        clear h a w; intro a w h
        refine wnil (c_then ?_)
        refine c_seq (c_region ?_)
        refine wv h (r_move h rfl) rfl ?_
        clear h a w; intro a w h
        refine wv h (r_move h rfl) rfl ?_
        clear h a w; intro a w h
        refine wv h (r_nilCheck h rfl) rfl ?_
        clear h a w; intro a w h
        refine wv h (r_fieldAddr0 h rfl K.u_digit_Eye rfl K.sz_S_uint8 rfl rfl) rfl ?_
        clear h a w; intro a w h
        first
                | (refine wv h (r_load h rfl K.u_S_uint8 rfl 0 rfl rfl) rfl ?_)
                | (refine wv h (r_load h rfl K.u_S_uint8 rfl 1 rfl rfl) rfl ?_)
                | (refine wv h (r_load h rfl K.u_S_uint8 rfl 2 rfl rfl) rfl ?_)
                | (refine wv h (r_load h rfl K.u_S_uint8 rfl 3 rfl rfl) rfl ?_)
                | (refine wv h (r_load h rfl K.u_S_uint8 rfl 4 rfl rfl) rfl ?_)
                | (refine wv h (r_load h rfl K.u_S_uint8 rfl 5 rfl rfl) rfl ?_)
                | (refine wv h (r_load1 h rfl K.u_S_uint8 rfl (by assumption)) rfl ?_)
        clear h a w; intro a w h
        refine wv h (r_move h rfl) rfl ?_
        clear h a w; intro a w h
        refine wl rfl (op_sliceOwnb h rfl K.u_S_uint8 K.sz_uint8 2 rfl k l.length ⟨_, rfl⟩ rfl (by omega) (by omega) rfl ?_)
        clear h a w; intro v3 a w h
        refine wv h (r_nilCheck h rfl) rfl ?_
        clear h a w; intro a w h
        refine wv h (r_fieldAddr0 h rfl K.u_digit_Eye rfl K.sz_S_uint8 rfl rfl) rfl ?_
        clear h a w; intro a w h
        refine wl rfl (op_store h rfl rfl K.sz_S_uint8 (Views.oneCell (Views.own 2 rfl) h.2) 1 rfl rfl rfl ?_)
        clear h a w; intro a w h
        refine wnil (c_then ?_)
        refine c_seq (c_region ?_)
        refine wv h (r_move h rfl) rfl ?_
        clear h a w; intro a w h
        refine wv h (r_assign h rfl) rfl ?_
        clear h a w; intro a w h
        refine wnil (c_then ?_)
        refine c_ret ?_
        refine ret1 h rfl rfl ⟨(v3, v2), rfl, ?_, trivial⟩
        have h2 := h.2
        have e4 : (l.drop k).take (l.length - k) = l.drop k := List.take_of_length_le (by simp)
        simp only [List.set_cons_zero, List.set_cons_succ, e4] at h2
        exact h2
  · have hr : eyeRaw (e, l) m = ([], (e, l)) := by simp [eyeRaw, he]
    have hd : decide (e ≠ 0) = true := decide_eq_true he
    rw [hr]
    refine enter K.fn_digit_Eye_Raw rfl K.nt_digit_Eye_Raw rfl hs ?_
    clear hs w; intro a w h
    refine c_seq (c_region ?_)
    refine wv h (r_assign h rfl) rfl ?_
    clear h a w; intro a w h
    refine wnil (c_then ?_)
    refine c_seq ?_
    refine c_seq (c_region ?_)
    refine wv h (r_move h rfl) rfl ?_
    clear h a w; intro a w h
    refine wv h (r_ptreq_nil h K.u_p_digit_Eye rfl rfl) rfl ?_
    clear h a w; intro a w h
    refine wv h (r_move h rfl) rfl ?_
    clear h a w; intro a w h
    first
        | (refine wvg h (r_move h rfl) rfl rfl ?_)
        | (refine wvs h rfl rfl ?_)
    clear h a w; intro a w h
    first
        | (refine wvg h (r_nilCheck h rfl) rfl rfl ?_)
        | (refine wvs h rfl rfl ?_)
    clear h a w; intro a w h
    first
        | (refine wvg h (r_fieldAddr h 1 rfl K.u_digit_Eye rfl K.sz_api_Errno rfl rfl) rfl rfl ?_)
        | (refine wvs h rfl rfl ?_)
    clear h a w; intro a w h
    first
        | (refine wvg h (r_load h rfl K.u_api_Errno rfl 0 rfl rfl) rfl rfl ?_)
        | (refine wvg h (r_load h rfl K.u_api_Errno rfl 1 rfl rfl) rfl rfl ?_)
        | (refine wvg h (r_load h rfl K.u_api_Errno rfl 2 rfl rfl) rfl rfl ?_)
        | (refine wvg h (r_load h rfl K.u_api_Errno rfl 3 rfl rfl) rfl rfl ?_)
        | (refine wvg h (r_load h rfl K.u_api_Errno rfl 4 rfl rfl) rfl rfl ?_)
        | (refine wvg h (r_load h rfl K.u_api_Errno rfl 5 rfl rfl) rfl rfl ?_)
        | (refine wvg h (r_load1 h rfl K.u_api_Errno rfl (by assumption)) rfl rfl ?_)
        | (refine wvs h rfl rfl ?_)
    clear h a w; intro a w h
    first
        | (refine wvg h (r_bin h rfl rfl (B.neq_int)) rfl rfl ?_)
        | (refine wvs h rfl rfl ?_)
    clear h a w; intro a w h
    rw [hd] at h
    first
        | (refine wv h (r_pick_true h rfl rfl) rfl ?_)
        | (refine wv h (r_pick_false h rfl rfl) rfl ?_)
        | (refine wv h (r_pick h rfl rfl rfl) rfl ?_)
    clear h a w; intro a w h
    refine wv h (r_move h rfl) rfl ?_
    clear h a w; intro a w h
    first
        | (refine wvg h (r_move h rfl) rfl rfl ?_)
        | (refine wvs h rfl rfl ?_)
    clear h a w; intro a w h
    first
        | (refine wvg h (r_bin h rfl rfl (B.leq_int)) rfl rfl ?_)
        | (refine wvs h rfl rfl ?_)
    clear h a w; intro a w h
    first
        | (refine wv h (r_pick_true h rfl rfl) rfl ?_)
        | (refine wv h (r_pick_false h rfl rfl) rfl ?_)
        | (refine wv h (r_pick h rfl rfl rfl) rfl ?_)
    clear h a w; intro a w h
    refine wnil (c_then ?_)
    refine c_true h rfl ?_
    refine c_seq (c_region ?_)
    refine wv h (r_assign h rfl) rfl ?_
    clear h a w; intro a w h
    refine wnil (c_then ?_)
    refine c_ret ?_
    exact ret1 h rfl rfl ⟨(pv, .slice none 0 0), rfl, h.addNilb.2, trivial⟩

theorem getN_len : ∀ (l : List UInt8) (i u : Nat) (most : Int), (getN l i u most).2.2.length ≤ l.length
  | [], _, _, _ => by simp [getN]
  | b :: r, i, u, most => by
    simp only [getN]
    have := getN_len r (i + 1) (u + b.toNat % 128 * 128 ^ i) most
    split
    · simp
    · split
      · simp only [List.length_cons]; omega
      · split <;> simp
theorem eyeNum_len (st : Int × List UInt8) (most : Int) : (eyeNum st most).2.2.length ≤ st.2.length := by
  unfold eyeNum; split
  · exact getN_len _ _ _ _
  · simp

/-- the calls of an eye, nil or not -/
theorem eye_fault (s w : World) (b : Nat) (T : TypeId) (pv : Value) (e : Int) (F : List HItem) (hs : Sat s w (Blk b (.cells #[pv, .int .i64 e] T) :: F)) :
    Calls P n_digit_Eye_Fault #[.pointer (some ⟨b, 0, none⟩)] w (Ret s (fun _ : Unit => .int .i64 e) (fun _ => Blk b (.cells #[pv, .int .i64 e] T) :: F) (fun _ => True)) := by
  refine enter K.fn_digit_Eye_Fault rfl K.nt_digit_Eye_Fault rfl hs ?_
  clear hs w; intro a w h
  refine c_seq (c_region ?_)
  refine wv h (r_assign h rfl) rfl ?_
  clear h a w; intro a w h
  refine wnil (c_then ?_)
  refine c_seq ?_
  refine c_seq (c_region ?_)
  refine wv h (r_move h rfl) rfl ?_
  clear h a w; intro a w h
  refine wv h (r_ptreq_nil h K.u_p_digit_Eye rfl rfl) rfl ?_
  clear h a w; intro a w h
  refine wnil (c_then ?_)
  refine c_false h rfl ?_
  refine c_skip ?_
  refine c_then ?_
  refine c_seq (c_region ?_)
  refine wv h (r_move h rfl) rfl ?_
  clear h a w; intro a w h
  refine wv h (r_nilCheck h rfl) rfl ?_
  clear h a w; intro a w h
  refine wv h (r_fieldAddr h 1 rfl K.u_digit_Eye rfl K.sz_api_Errno rfl rfl) rfl ?_
  clear h a w; intro a w h
  first
    | (refine wv h (r_load h rfl K.u_api_Errno rfl 0 rfl rfl) rfl ?_)
    | (refine wv h (r_load h rfl K.u_api_Errno rfl 1 rfl rfl) rfl ?_)
    | (refine wv h (r_load h rfl K.u_api_Errno rfl 2 rfl rfl) rfl ?_)
    | (refine wv h (r_load h rfl K.u_api_Errno rfl 3 rfl rfl) rfl ?_)
    | (refine wv h (r_load h rfl K.u_api_Errno rfl 4 rfl rfl) rfl ?_)
    | (refine wv h (r_load h rfl K.u_api_Errno rfl 5 rfl rfl) rfl ?_)
    | (refine wv h (r_load1 h rfl K.u_api_Errno rfl (by assumption)) rfl ?_)
  clear h a w; intro a w h
  refine wv h (r_assign h rfl) rfl ?_
  clear h a w; intro a w h
  refine wnil (c_then ?_)
  refine c_ret ?_
  exact ret1 h rfl rfl ⟨(), rfl, h.2, trivial⟩
theorem eye_fault_nil (s w : World) (F : List HItem) (hs : Sat s w F) :
    Calls P n_digit_Eye_Fault #[.pointer none] w (Ret s (fun _ : Unit => .int .i64 2) (fun _ => F) (fun _ => True)) := by
  refine enter K.fn_digit_Eye_Fault rfl K.nt_digit_Eye_Fault rfl hs ?_
  clear hs w; intro a w h
  refine c_seq (c_region ?_)
  refine wv h (r_assign h rfl) rfl ?_
  clear h a w; intro a w h
  refine wnil (c_then ?_)
  refine c_seq ?_
  refine c_seq (c_region ?_)
  refine wv h (r_move h rfl) rfl ?_
  clear h a w; intro a w h
  refine wv h (r_ptreq_nil h K.u_p_digit_Eye rfl rfl) rfl ?_
  clear h a w; intro a w h
  refine wnil (c_then ?_)
  refine c_true h rfl ?_
  refine c_seq (c_region ?_)
  refine wv h (r_assign h rfl) rfl ?_
  clear h a w; intro a w h
  refine wnil (c_then ?_)
  refine c_ret ?_
  exact ret1 h rfl rfl ⟨(), rfl, h.2, trivial⟩
theorem eye_left (s w : World) (b : Nat) (T : TypeId) (pv : Value) (l : List UInt8) (e : Int) (F : List HItem) (hs : Sat s w (Blk b (.cells #[pv, .int .i64 e] T) :: OwnB pv l :: F)) :
    Calls P n_digit_Eye_Left #[.pointer (some ⟨b, 0, none⟩)] w (Ret s (fun _ : Unit => .int .i64 (l.length : Int)) (fun _ => Blk b (.cells #[pv, .int .i64 e] T) :: OwnB pv l :: F) (fun _ => True)) := by
  refine enter K.fn_digit_Eye_Left rfl K.nt_digit_Eye_Left rfl hs ?_
  clear hs w; intro a w h
  refine c_seq (c_region ?_)
  refine wv h (r_assign h rfl) rfl ?_
  clear h a w; intro a w h
  refine wnil (c_then ?_)
  refine c_seq ?_
  refine c_seq (c_region ?_)
  refine wv h (r_move h rfl) rfl ?_
  clear h a w; intro a w h
  refine wv h (r_ptreq_nil h K.u_p_digit_Eye rfl rfl) rfl ?_
  clear h a w; intro a w h
  refine wnil (c_then ?_)
  refine c_false h rfl ?_
  refine c_skip ?_
  refine c_then ?_
  refine c_seq (c_region ?_)
  refine wv h (r_move h rfl) rfl ?_
  clear h a w; intro a w h
  refine wv h (r_nilCheck h rfl) rfl ?_
  clear h a w; intro a w h
  refine wv h (r_fieldAddr0 h rfl K.u_digit_Eye rfl K.sz_S_uint8 rfl rfl) rfl ?_
  clear h a w; intro a w h
  first
    | (refine wv h (r_load h rfl K.u_S_uint8 rfl 0 rfl rfl) rfl ?_)
    | (refine wv h (r_load h rfl K.u_S_uint8 rfl 1 rfl rfl) rfl ?_)
    | (refine wv h (r_load h rfl K.u_S_uint8 rfl 2 rfl rfl) rfl ?_)
    | (refine wv h (r_load h rfl K.u_S_uint8 rfl 3 rfl rfl) rfl ?_)
    | (refine wv h (r_load h rfl K.u_S_uint8 rfl 4 rfl rfl) rfl ?_)
    | (refine wv h (r_load h rfl K.u_S_uint8 rfl 5 rfl rfl) rfl ?_)
    | (refine wv h (r_load1 h rfl K.u_S_uint8 rfl (by assumption)) rfl ?_)
  clear h a w; intro a w h
  refine wv h (r_lenB h rfl K.u_S_uint8 (ViewsB.own 1 rfl)) rfl ?_
  clear h a w; intro a w h
  refine wv h (r_assign h rfl) rfl ?_
  clear h a w; intro a w h
  refine wnil (c_then ?_)
  refine c_ret ?_
  exact ret1 h rfl rfl ⟨(), rfl, h.2, trivial⟩
theorem eye_left_nil (s w : World) (F : List HItem) (hs : Sat s w F) :
    Calls P n_digit_Eye_Left #[.pointer none] w (Ret s (fun _ : Unit => .int .i64 0) (fun _ => F) (fun _ => True)) := by
  refine enter K.fn_digit_Eye_Left rfl K.nt_digit_Eye_Left rfl hs ?_
  clear hs w; intro a w h
  refine c_seq (c_region ?_)
  refine wv h (r_assign h rfl) rfl ?_
  clear h a w; intro a w h
  refine wnil (c_then ?_)
  refine c_seq ?_
  refine c_seq (c_region ?_)
  refine wv h (r_move h rfl) rfl ?_
  clear h a w; intro a w h
  refine wv h (r_ptreq_nil h K.u_p_digit_Eye rfl rfl) rfl ?_
  clear h a w; intro a w h
  refine wnil (c_then ?_)
  refine c_true h rfl ?_
  refine c_seq (c_region ?_)
  refine wv h (r_assign h rfl) rfl ?_
  clear h a w; intro a w h
  refine wnil (c_then ?_)
  refine c_ret ?_
  exact ret1 h rfl rfl ⟨(), rfl, h.2, trivial⟩
theorem eye_End (s w : World) (b : Nat) (T : TypeId) (pv : Value) (l : List UInt8) (e : Int) (F : List HItem) (hs : Sat s w (Blk b (.cells #[pv, .int .i64 e] T) :: OwnB pv l :: F)) :
    Calls P n_digit_Eye_End #[.pointer (some ⟨b, 0, none⟩)] w (Ret s (fun _ : Unit => .int .i64 (eyeEnd (e, l))) (fun _ => Blk b (.cells #[pv, .int .i64 e] T) :: OwnB pv l :: F) (fun _ => True)) := by
  by_cases he : e = 0
  · subst he
    have hd : decide ((0 : Int) = 0) = true := by decide
    refine enter K.fn_digit_Eye_End rfl K.nt_digit_Eye_End rfl hs ?_
    clear hs w; intro a w h
    refine c_seq (c_region ?_)
    refine wv h (r_assign h rfl) rfl ?_
    clear h a w; intro a w h
    refine wnil (c_then ?_)
    refine c_seq ?_
    refine c_seq (c_region ?_)
    refine wv h (r_move h rfl) rfl ?_
    clear h a w; intro a w h
    refine wl rfl (op_call h rfl K.go_digit_Eye_Fault (eye_fault s _ b T pv 0 _ h.2) rfl ?_)
    clear h a w; intro x a w hx h
    refine wv h (r_bin h rfl rfl (B.eql_int)) rfl ?_
    clear h a w; intro a w h
    rw [hd] at h
    refine wv h (r_move h rfl) rfl ?_
    clear h a w; intro a w h
    first
        | (refine wvg h (r_move h rfl) rfl rfl ?_)
        | (refine wvs h rfl rfl ?_)
    clear h a w; intro a w h
    refine wlg h rfl rfl (op_call h rfl K.go_digit_Eye_Left (eye_left s _ b T pv l 0 F h.2) rfl ?_)
    clear h a w; intro x a w hx h
    first
        | (refine wvg h (r_bin h rfl rfl (B.gtr_int)) rfl rfl ?_)
        | (refine wvs h rfl rfl ?_)
    clear h a w; intro a w h
    first
        | (refine wv h (r_pick_true h rfl rfl) rfl ?_)
        | (refine wv h (r_pick_false h rfl rfl) rfl ?_)
        | (refine wv h (r_pick h rfl rfl rfl) rfl ?_)
    clear h a w; intro a w h
    refine wnil (c_then ?_)
    refine c_condD h rfl (fun ht1 => ?_) (fun ht1 => ?_)
    ·
     have hr : eyeEnd (0, l) = 7 := by simp [eyeEnd]; intro hh; subst hh; simp at ht1
     rw [hr]
     as_aux_lemma =>
      refine c_seq (c_region ?_)
      refine wv h (r_assign h rfl) rfl ?_
      clear h a w; intro a w h
      refine wnil (c_then ?_)
      refine c_ret ?_
      exact ret1 h rfl rfl ⟨(), rfl, h.2, trivial⟩
    ·
     have hr : eyeEnd (0, l) = 0 := by simp [eyeEnd]; exact List.eq_nil_of_length_eq_zero (by omega)
     rw [hr]
     refine c_skip ?_
     refine c_then ?_
     refine c_seq (c_region ?_)
     refine wv h (r_move h rfl) rfl ?_
     clear h a w; intro a w h
     refine wl rfl (op_call h rfl K.go_digit_Eye_Fault (eye_fault s _ b T pv 0 _ h.2) rfl ?_)
     clear h a w; intro x a w hx h
     refine wv h (r_assign h rfl) rfl ?_
     clear h a w; intro a w h
     refine wnil (c_then ?_)
     refine c_ret ?_
     exact ret1 h rfl rfl ⟨(), rfl, h.2, trivial⟩
  · have hd : decide (e = 0) = false := decide_eq_false he
    have hr : eyeEnd (e, l) = e := by simp [eyeEnd, he]
    rw [hr]
    refine enter K.fn_digit_Eye_End rfl K.nt_digit_Eye_End rfl hs ?_
    clear hs w; intro a w h
    refine c_seq (c_region ?_)
    refine wv h (r_assign h rfl) rfl ?_
    clear h a w; intro a w h
    refine wnil (c_then ?_)
    refine c_seq ?_
    refine c_seq (c_region ?_)
    refine wv h (r_move h rfl) rfl ?_
    clear h a w; intro a w h
    refine wl rfl (op_call h rfl K.go_digit_Eye_Fault (eye_fault s _ b T pv e _ h.2) rfl ?_)
    clear h a w; intro x a w hx h
    refine wv h (r_bin h rfl rfl (B.eql_int)) rfl ?_
    clear h a w; intro a w h
    rw [hd] at h
    refine wv h (r_move h rfl) rfl ?_
    clear h a w; intro a w h
    first
        | (refine wvg h (r_move h rfl) rfl rfl ?_)
        | (refine wvs h rfl rfl ?_)
    clear h a w; intro a w h
    refine wvs h rfl rfl ?_
    clear h a w; intro a w h
    first
        | (refine wvg h (r_bin h rfl rfl (B.gtr_int)) rfl rfl ?_)
        | (refine wvs h rfl rfl ?_)
    clear h a w; intro a w h
    first
        | (refine wv h (r_pick_true h rfl rfl) rfl ?_)
        | (refine wv h (r_pick_false h rfl rfl) rfl ?_)
        | (refine wv h (r_pick h rfl rfl rfl) rfl ?_)
    clear h a w; intro a w h
    refine wnil (c_then ?_)
    refine c_false h rfl ?_
    refine c_skip ?_
    refine c_then ?_
    refine c_seq (c_region ?_)
    refine wv h (r_move h rfl) rfl ?_
    clear h a w; intro a w h
    refine wl rfl (op_call h rfl K.go_digit_Eye_Fault (eye_fault s _ b T pv e _ h.2) rfl ?_)
    clear h a w; intro x a w hx h
    refine wv h (r_assign h rfl) rfl ?_
    clear h a w; intro a w h
    refine wnil (c_then ?_)
    refine c_ret ?_
    exact ret1 h rfl rfl ⟨(), rfl, h.2, trivial⟩
theorem eye_End_nil (s w : World) (F : List HItem) (hs : Sat s w F) :
    Calls P n_digit_Eye_End #[.pointer none] w (Ret s (fun _ : Unit => .int .i64 2) (fun _ => F) (fun _ => True)) := by
  refine enter K.fn_digit_Eye_End rfl K.nt_digit_Eye_End rfl hs ?_
  clear hs w; intro a w h
  refine c_seq (c_region ?_)
  refine wv h (r_assign h rfl) rfl ?_
  clear h a w; intro a w h
  refine wnil (c_then ?_)
  refine c_seq ?_
  refine c_seq (c_region ?_)
  refine wv h (r_move h rfl) rfl ?_
  clear h a w; intro a w h
  refine wl rfl (op_call h rfl K.go_digit_Eye_Fault (eye_fault_nil s _ _ h.2) rfl ?_)
  clear h a w; intro x a w hx h
  refine wv h (r_bin h rfl rfl (B.eql_int)) rfl ?_
  clear h a w; intro a w h
  have hd : decide ((2 : Int) = 0) = false := by decide
  rw [hd] at h
  refine wv h (r_move h rfl) rfl ?_
  clear h a w; intro a w h
  first
    | (refine wvg h (r_move h rfl) rfl rfl ?_)
    | (refine wvs h rfl rfl ?_)
  clear h a w; intro a w h
  refine wvs h rfl rfl ?_
  clear h a w; intro a w h
  first
    | (refine wvg h (r_bin h rfl rfl (B.gtr_int)) rfl rfl ?_)
    | (refine wvs h rfl rfl ?_)
  clear h a w; intro a w h
  first
    | (refine wv h (r_pick_true h rfl rfl) rfl ?_)
    | (refine wv h (r_pick_false h rfl rfl) rfl ?_)
    | (refine wv h (r_pick h rfl rfl rfl) rfl ?_)
  clear h a w; intro a w h
  refine wnil (c_then ?_)
  refine c_false h rfl ?_
  refine c_skip ?_
  refine c_then ?_
  refine c_seq (c_region ?_)
  refine wv h (r_move h rfl) rfl ?_
  clear h a w; intro a w h
  refine wl rfl (op_call h rfl K.go_digit_Eye_Fault (eye_fault_nil s _ _ h.2) rfl ?_)
  clear h a w; intro x a w hx h
  refine wv h (r_assign h rfl) rfl ?_
  clear h a w; intro a w h
  refine wnil (c_then ?_)
  refine c_ret ?_
  exact ret1 h rfl rfl ⟨(), rfl, h.2, trivial⟩
end Go.Proofs.K
