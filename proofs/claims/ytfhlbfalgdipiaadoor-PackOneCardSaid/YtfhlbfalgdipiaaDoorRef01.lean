/- The contracts of the document's numbers and texts. -/
import Derived.Test.YtfhlbfalgdipiaaDoorDigit
import Derived.Test.YtfhlbfalgdipiaaDoorDigitLaw
set_option linter.unusedVariables false
set_option linter.unusedSimpArgs false
set_option maxRecDepth 10000
namespace Go.Proofs.K
open Go.Sl

theorem ref_num (s w : World) (m : Nat) (F : List HItem) (hm : m < 9223372036854775808) (hs : Sat s w F) :
    Calls P n_ref01_Num #[.int .i64 (m : Int)] w (Ret s (fun v : Value => v) (fun v => OwnB v (numN m) :: F) (fun _ => True)) := by
  have hnl := numN_len9 m (by omega)
  refine enter K.fn_ref01_Num rfl K.nt_ref01_Num rfl hs ?_
  clear hs w; intro a w h
  refine c_seq (c_region ?_)
  refine wv h (r_assign h rfl) rfl ?_
  clear h a w; intro a w h
  refine wnil (c_then ?_)
  refine c_seq (c_region ?_)
  refine wv h (r_assign h rfl) rfl ?_
  clear h a w; intro a w h
  replace h := h.addNilb
  refine wnil (c_then ?_)
  refine c_seq ?_
  refine c_block ?_
  refine c_loop (X := Nat × Value × List UInt8) (fun x => [(0, .int .i64 (x.1 : Int)), (3, x.2.1)]) (fun x => OwnB x.2.1 x.2.2 :: F)
    (fun x => x.2.2 ++ numN x.1 = numN m ∧ x.1 ≤ m) (fun x => x.1) (m, .slice none 0 0, []) (h.keep [0, 3]) ⟨by simp, by omega⟩ ?_
  clear h a w; intro x a w hx h
  obtain ⟨u, vv, l'⟩ := x
  obtain ⟨hx1, hx2⟩ := hx
  simp only at h hx1 hx2
  have hlen := congrArg List.length hx1
  simp only [List.length_append] at hlen
  have hp := numN_len_pos u
  as_aux_lemma =>
   refine c_seq ?_
   refine c_seq (c_region ?_)
   refine wv h (r_move h rfl) rfl ?_
   clear h a w; intro a w h
   refine wv h (r_bin h rfl rfl (B.geq_int)) rfl ?_
   clear h a w; intro a w h
   refine wnil (c_then ?_)
   refine c_condD h rfl (fun ht1 => ?_) (fun ht1 => ?_)
   ·
    have ht' : ¬ u < 128 := by omega
    rw [numN, dif_neg ht'] at hx1
    refine c_skip ?_
    refine c_then ?_
    refine c_block ?_
    refine c_seq (c_region ?_)
    refine wv h (r_move h rfl) rfl ?_
    clear h a w; intro a w h
    refine wv h (r_move h rfl) rfl ?_
    clear h a w; intro a w h
    refine wv h (r_bin h rfl rfl (B.rem_i64 (by omega) (by omega))) rfl ?_
    clear h a w; intro a w h
    refine wv h (r_conv h rfl K.u_int K.u_uint8 (C.u8_i64) ) rfl ?_
    clear h a w; intro a w h
    refine wl rfl (op_buildSlice h K.u_S_uint8 K.sz_uint8 K.z_uint8 rfl rfl rfl rfl rfl (by simp [Value.cells, bv, w32, w64, sv]) rfl ?_)
    clear h a w; intro b1 a w h
    refine wl rfl (op_appendb h rfl rfl K.u_S_uint8 K.sz_uint8 K.z_uint8 rfl rfl 0 rfl (by omega) rfl ?_)
    clear h a w; intro v2 a w h
    refine wv h (r_assign h rfl) rfl ?_
    clear h a w; intro a w h
    refine wnil (c_then ?_)
    refine c_region ?_
    refine wv h (r_move h rfl) rfl ?_
    clear h a w; intro a w h
    refine wv h (r_bin h rfl rfl (B.quo_i64 (by omega) (by omega) (by omega))) rfl ?_
    clear h a w; intro a w h
    refine wv h (r_assign h rfl) rfl ?_
    clear h a w; intro a w h
    refine wnil ?_
    refine b_normal ?_
    refine ⟨(u / 128, v2, l' ++ [UInt8.ofInt ((u : Int) % 128)]), h.keep [0, 3], ⟨?_, ?_⟩, ?_⟩
    · have e : UInt8.ofInt ((u : Int) % 128) = UInt8.ofNat (u % 128) := by
        apply UInt8.toNat_inj.1; simp [UInt8.ofInt, UInt8.toNat_ofNat']; omega
      show (l' ++ [UInt8.ofInt ((u : Int) % 128)]) ++ numN (u / 128) = _
      rw [e, ← hx1]; simp
    · show u / 128 ≤ m; omega
    · show u / 128 < u; omega
   ·
    have ht' : u < 128 := by omega
    rw [numN, dif_pos ht'] at hx1
    refine c_exit ?_
    refine e_then ?_
    refine e_then ?_
    refine e_here ?_
    refine c_then ?_
    refine c_seq (c_region ?_)
    refine wv h (r_move h rfl) rfl ?_
    clear h a w; intro a w h
    refine wv h (r_move h rfl) rfl ?_
    clear h a w; intro a w h
    refine wv h (r_conv h rfl K.u_int K.u_uint8 (C.u8_i64) ) rfl ?_
    clear h a w; intro a w h
    refine wv h (r_bin h rfl rfl (B.add_u8 (y := 128))) rfl ?_
    clear h a w; intro a w h
    refine wl rfl (op_buildSlice h K.u_S_uint8 K.sz_uint8 K.z_uint8 rfl rfl rfl rfl rfl (by simp [Value.cells, bv, w32, w64, sv]) rfl ?_)
    clear h a w; intro b1 a w h
    refine wl rfl (op_appendb h rfl rfl K.u_S_uint8 K.sz_uint8 K.z_uint8 rfl rfl 0 rfl (by omega) rfl ?_)
    clear h a w; intro v2 a w h
    refine wv h (r_assign h rfl) rfl ?_
    clear h a w; intro a w h
    refine wnil (c_then ?_)
    refine c_ret ?_
    refine ret1 h rfl rfl ⟨v2, rfl, ?_, trivial⟩
    have e : UInt8.ofInt (u : Int) + 128 = UInt8.ofNat (u + 128) := by
      apply UInt8.toNat_inj.1; simp [UInt8.ofInt, UInt8.toNat_ofNat']; omega
    have h2 := h.2
    rw [e] at h2
    simp only [List.set_cons_zero] at h2
    rw [hx1] at h2
    exact h2
end Go.Proofs.K
