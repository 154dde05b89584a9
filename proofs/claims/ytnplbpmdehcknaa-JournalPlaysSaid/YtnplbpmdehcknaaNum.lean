/- Numbers of four bytes: the contracts. -/
import Derived.Test.YtnplbpmdehcknaaTab
import Derived.Test.YtnplbpmdehcknaaNumPure
set_option linter.unusedVariables false
set_option linter.unusedSimpArgs false
set_option maxRecDepth 10000
namespace Go.Proofs.K
open Go.Sl

theorem check_four (s w : World) (n : Int) (F : List HItem) (hs : Sat s w F) :
    Calls P n_check_Four #[.int .i64 n] w (Ret s (fun v : Value => v) (fun v => OwnB v (fourN (UInt32.ofInt n)) :: F) (fun _ => True)) := by
  refine enter K.fn_check_Four rfl K.nt_check_Four rfl hs ?_
  clear hs w; intro a w h
  refine c_seq (c_region ?_)
  refine wv h (r_assign h rfl) rfl ?_
  clear h a w; intro a w h
  refine wnil (c_then ?_)
  refine c_seq (c_region ?_)
  refine wv h (r_move h rfl) rfl ?_
  clear h a w; intro a w h
  refine wv h (r_conv h rfl K.u_int K.u_uint8 (C.u8_i64) ) rfl ?_
  clear h a w; intro a w h
  refine wv h (r_move h rfl) rfl ?_
  clear h a w; intro a w h
  refine wv h (r_bin h rfl rfl (B.shr_i64 (by omega) (by omega))) rfl ?_
  clear h a w; intro a w h
  refine wv h (r_conv h rfl K.u_int K.u_uint8 (C.u8_i64) ) rfl ?_
  clear h a w; intro a w h
  refine wv h (r_move h rfl) rfl ?_
  clear h a w; intro a w h
  refine wv h (r_bin h rfl rfl (B.shr_i64 (by omega) (by omega))) rfl ?_
  clear h a w; intro a w h
  refine wv h (r_conv h rfl K.u_int K.u_uint8 (C.u8_i64) ) rfl ?_
  clear h a w; intro a w h
  refine wv h (r_move h rfl) rfl ?_
  clear h a w; intro a w h
  refine wv h (r_bin h rfl rfl (B.shr_i64 (by omega) (by omega))) rfl ?_
  clear h a w; intro a w h
  refine wv h (r_conv h rfl K.u_int K.u_uint8 (C.u8_i64) ) rfl ?_
  clear h a w; intro a w h
  refine wl rfl (op_buildSlice h K.u_S_uint8 K.sz_uint8 K.z_uint8 rfl rfl rfl rfl rfl (by simp [Value.cells, bv, w32, w64, sv]) rfl ?_)
  clear h a w; intro b a w h
  replace h := St.toOwnb h (fourN (UInt32.ofInt n)) (NF.zero 4) (by rw [← four_int]; rfl) rfl
  refine wv h (r_assign h rfl) rfl ?_
  clear h a w; intro a w h
  refine wnil (c_then ?_)
  refine c_ret ?_
  exact ret1 h rfl rfl ⟨_, rfl, h.2, trivial⟩
theorem check_number (s w : World) (v : Value) (l : List UInt8) (F : List HItem) (hv : ViewsB F v l) (hs : Sat s w F) :
    Calls P n_check_Number #[v] w (Ret s (fun _ : Unit => .int .i64 (leN (l.take 4) : Int)) (fun _ => F) (fun _ => True)) := by
  have hc4 : (l.take 4).length ≤ 4 := by rw [List.length_take]; omega
  refine enter K.fn_check_Number rfl K.nt_check_Number rfl hs ?_
  clear hs w; intro a w h
  refine c_seq (c_region ?_)
  refine wv h (r_assign h rfl) rfl ?_
  clear h a w; intro a w h
  refine wnil (c_then ?_)
  refine c_seq (c_region ?_)
  refine wv h (r_assign h rfl) rfl ?_
  clear h a w; intro a w h
  refine wnil (c_then ?_)
  refine c_seq ?_
  refine c_seq (c_region ?_)
  refine wv h (r_move h rfl) rfl ?_
  clear h a w; intro a w h
  refine wv h (r_lenB h rfl K.u_S_uint8 hv) rfl ?_
  clear h a w; intro a w h
  have hlen : l.length ≤ 9223372036854775807 := by
    have := Views.shape hv h.2
    obtain ⟨A, cap, _, h1, h2⟩ := this
    simp [maxLen] at h2; omega
  refine wv h (r_move h rfl) rfl ?_
  clear h a w; intro a w h
  refine wnil (c_then ?_)
  refine c_block ?_
  refine c_loop (X := Nat) (fun i => [(3, .int .i64 (leN ((l.take 4).take i) : Int)), (6, v), (7, .int .i64 (l.length : Int)), (8, .int .i64 (i : Int))])
    (fun _ => F) (fun i => i ≤ l.length) (fun i => l.length - i) 0 (h.keep [3, 6, 7, 8]) (by simp) ?_
  clear h a w; intro i a w hx h
  as_aux_lemma =>
   refine c_seq (c_region ?_)
   refine wv h (r_bin h rfl rfl (B.lss_int)) rfl ?_
   clear h a w; intro a w h
   refine wnil (c_then ?_)
   refine c_seq ?_
   refine c_condD h rfl (fun ht1 => ?_) (fun ht1 => ?_)
   ·
    obtain ⟨b, hb⟩ : ∃ b, l[i]? = some b := ⟨l[i]'(by omega), by simp⟩
    have hlt := leN_lt ((l.take 4).take i)
    refine c_skip ?_
    refine c_then ?_
    refine c_seq ?_
    refine c_block ?_
    refine c_seq (c_region ?_)
    refine wv h (r_move h rfl) rfl ?_
    clear h a w; intro a w h
    refine wl rfl (op_indexAddrb h rfl rfl K.u_S_uint8 K.sz_uint8 hv i rfl hb rfl ?_)
    clear h a w; intro p a w hp h
    first
        | (refine wv h (r_load h rfl K.u_uint8 rfl 0 rfl rfl) rfl ?_)
        | (refine wv h (r_load h rfl K.u_uint8 rfl 1 rfl rfl) rfl ?_)
        | (refine wv h (r_load h rfl K.u_uint8 rfl 2 rfl rfl) rfl ?_)
        | (refine wv h (r_load h rfl K.u_uint8 rfl 3 rfl rfl) rfl ?_)
        | (refine wv h (r_load h rfl K.u_uint8 rfl 4 rfl rfl) rfl ?_)
        | (refine wv h (r_load h rfl K.u_uint8 rfl 5 rfl rfl) rfl ?_)
        | (refine wv h (r_load1 h rfl K.u_uint8 rfl (by assumption)) rfl ?_)
    clear h a w; intro a w h
    refine wv h (r_assign h rfl) rfl ?_
    clear h a w; intro a w h
    refine wv h (r_assign h rfl) rfl ?_
    clear h a w; intro a w h
    refine wnil (c_then ?_)
    refine c_seq (c_region ?_)
    refine wv h (r_move h rfl) rfl ?_
    clear h a w; intro a w h
    refine wv h (r_bin h rfl rfl (B.lss_int)) rfl ?_
    clear h a w; intro a w h
    refine wnil (c_then ?_)
    refine c_condD h rfl (fun ht2 => ?_) (fun ht2 => ?_)
    ·
     have hi4 : i < 4 := by omega
     have hl4 : ((l.take 4).take i).length = i := by rw [List.length_take, List.length_take]; omega
     have hts : (l.take 4).take (i + 1) = (l.take 4).take i ++ [b] := by rw [List.take_add_one, List.getElem?_take, if_pos hi4, hb]; rfl
     have hsn : leN ((l.take 4).take (i + 1)) = leN ((l.take 4).take i) ||| b.toNat * 2 ^ (8 * i) := by
       rw [hts, leN_snoc, hl4, or256 _ _ _ (by rw [hl4] at hlt; exact hlt)]
     rw [hl4] at hlt
     have hbl := b.toNat_lt
     have hp4 : 256 ^ i ≤ 256 ^ 3 := Nat.pow_le_pow_right (by omega) (by omega)
     have hp8 : (256 : Nat) ^ i = 2 ^ (8 * i) := by rw [Nat.pow_mul]
     have hsh : (b.toNat : Int) * 2 ^ (8 * (i : Int)).toNat = ((b.toNat * 2 ^ (8 * i) : Nat) : Int) := by
       rw [show (8 * (i : Int)).toNat = 8 * i by omega]; simp
     have hbb : b.toNat * 2 ^ (8 * i) ≤ 255 * 256 ^ 3 := by rw [← hp8]; exact Nat.mul_le_mul (by omega) hp4
     as_aux_lemma =>
      refine c_region ?_
      refine wv h (r_move h rfl) rfl ?_
      clear h a w; intro a w h
      refine wv h (r_move h rfl) rfl ?_
      clear h a w; intro a w h
      refine wv h (r_conv h rfl K.u_uint8 K.u_int (C.i64_u8) ) rfl ?_
      clear h a w; intro a w h
      refine wv h (r_move h rfl) rfl ?_
      clear h a w; intro a w h
      refine wv h (r_bin h rfl rfl (B.mul_i64 (by omega) (by omega))) rfl ?_
      clear h a w; intro a w h
      refine wv h (r_bin h rfl rfl (B.shl_i64 (by omega) (by omega) (by omega) (by omega))) rfl ?_
      clear h a w; intro a w h
      rw [hsh] at h
      refine wv h (r_bin h rfl rfl (B.or_i64 (by omega) (by omega))) rfl ?_
      clear h a w; intro a w h
      rw [← hsn] at h
      refine wv h (r_assign h rfl) rfl ?_
      clear h a w; intro a w h
      refine wnil ?_
      refine b_normal ?_
      refine c_then ?_
      refine c_region ?_
      refine wv h (r_bin h rfl rfl (B.add_i64 (by omega) (by omega))) rfl ?_
      clear h a w; intro a w h
      refine wv h (r_move h rfl) rfl ?_
      clear h a w; intro a w h
      refine wnil ?_
      refine ⟨i + 1, h.keep [3, 6, 7, 8], ?_, ?_⟩
      · show i + 1 ≤ l.length; omega
      · show l.length - (i + 1) < l.length - i; omega
    ·
     have hts : (l.take 4).take i = (l.take 4).take (i + 1) :=
       (List.take_of_length_le (by omega : (l.take 4).length ≤ i)).trans (List.take_of_length_le (by omega : (l.take 4).length ≤ i + 1)).symm
     rw [hts] at h
     refine c_skip ?_
     refine b_normal ?_
     refine c_then ?_
     refine c_region ?_
     refine wv h (r_bin h rfl rfl (B.add_i64 (by omega) (by omega))) rfl ?_
     clear h a w; intro a w h
     refine wv h (r_move h rfl) rfl ?_
     clear h a w; intro a w h
     refine wnil ?_
     refine ⟨i + 1, h.keep [3, 6, 7, 8], ?_, ?_⟩
     · show i + 1 ≤ l.length; omega
     · show l.length - (i + 1) < l.length - i; omega
   ·
    have hil : i = l.length := by omega
    subst hil
    rw [List.take_of_length_le (by rw [List.length_take]; omega : (l.take 4).length ≤ l.length)] at h
    refine c_exit ?_
    refine e_then ?_
    refine e_then ?_
    refine e_here ?_
    refine c_then ?_
    refine c_seq (c_region ?_)
    refine wv h (r_move h rfl) rfl ?_
    clear h a w; intro a w h
    refine wv h (r_assign h rfl) rfl ?_
    clear h a w; intro a w h
    refine wnil (c_then ?_)
    refine c_ret ?_
    exact ret1 h rfl rfl ⟨(), rfl, h.2, trivial⟩
end Go.Proofs.K
