/- The contracts of package check, of what the reference has of it, and the law on the sum of any bytes. -/
import Derived.Test.YtfhlbfalgdipiaaDoorTab
import Derived.Test.YtfhlbfalgdipiaaDoorCheckPure
set_option linter.unusedVariables false
set_option linter.unusedSimpArgs false
set_option maxRecDepth 10000
namespace Go.Proofs.K
open Go.Sl

/-- the program's table stands where it was laid -/
abbrev HasLines (F : List HItem) : Prop := CellsAt F ⟨g_check_lines, 0, none⟩ tabV

theorem check_of (s w : World) (v : Value) (l : List UInt8) (F : List HItem) (hT : HasLines F) (hv : ViewsB F v l) (hs : Sat s w F) :
    Calls P n_check_Of #[v] w (Ret s (fun _ : Unit => w32 (crcN l)) (fun _ => F) (fun _ => True)) := by
  refine enter K.fn_check_Of rfl K.nt_check_Of rfl hs ?_
  clear hs w; intro a w h
  refine c_seq (c_region ?_)
  refine wv h (r_assign h rfl) rfl ?_
  clear h a w; intro a w h
  refine wnil (c_then ?_)
  refine c_seq (c_region ?_)
  refine wv h (r_assign h rfl) rfl ?_
  clear h a w; intro a w h
  refine wnil (c_then ?_)
  refine c_seq ?_
  refine c_seq (c_region ?_)
  refine wv h (r_move h rfl) rfl ?_
  clear h a w; intro a w h
  refine wv h (r_lenB h rfl K.u_S_uint8 hv) rfl ?_
  clear h a w; intro a w h
  have hlen : l.length ≤ 9223372036854775807 := by
    have := Views.shape hv h.2
    obtain ⟨A, cap, _, h1, h2⟩ := this
    simp [maxLen] at h2; omega
  refine wv h (r_move h rfl) rfl ?_
  clear h a w; intro a w h
  refine wnil (c_then ?_)
  refine c_block ?_
  refine c_loop (X := Nat) (fun i => [(3, w32 (crcR 4294967295 (l.take i))), (6, v), (7, .int .i64 (l.length : Int)), (8, .int .i64 (i : Int))])
    (fun _ => F) (fun i => i ≤ l.length) (fun i => l.length - i) 0 (h.keep [3, 6, 7, 8]) (by simp) ?_
  clear h a w; intro i a w hx h
  as_aux_lemma =>
   refine c_seq (c_region ?_)
   refine wv h (r_bin h rfl rfl (B.lss_int)) rfl ?_
   clear h a w; intro a w h
   refine wnil (c_then ?_)
   refine c_seq ?_
   refine c_condD h rfl (fun ht1 => ?_) (fun ht1 => ?_)
   ·
    obtain ⟨b, hb⟩ : ∃ b, l[i]? = some b := ⟨l[i]'(by omega), by simp⟩
    have ht : l.take (i + 1) = l.take i ++ [b] := by rw [List.take_add_one, hb]; rfl
    generalize hr : crcR 4294967295 (l.take i) = r at h
    have hr2 : crcR 4294967295 (l.take (i + 1)) = crcB r b := by rw [ht, crcR_snoc, hr]
    refine c_skip ?_
    refine c_then ?_
    refine c_seq ?_
    refine c_block ?_
    refine c_seq (c_region ?_)
    refine wl rfl (op_indexAddrb h rfl rfl K.u_S_uint8 K.sz_uint8 hv i rfl hb rfl ?_)
    clear h a w; intro p a w hp h
    first
        | (refine wv h (r_load h rfl K.u_uint8 rfl 0 rfl rfl) rfl ?_)
        | (refine wv h (r_load h rfl K.u_uint8 rfl 1 rfl rfl) rfl ?_)
        | (refine wv h (r_load h rfl K.u_uint8 rfl 2 rfl rfl) rfl ?_)
        | (refine wv h (r_load h rfl K.u_uint8 rfl 3 rfl rfl) rfl ?_)
        | (refine wv h (r_load h rfl K.u_uint8 rfl 4 rfl rfl) rfl ?_)
        | (refine wv h (r_load h rfl K.u_uint8 rfl 5 rfl rfl) rfl ?_)
        | (refine wv h (r_load1 h rfl K.u_uint8 rfl (by assumption)) rfl ?_)
    clear h a w; intro a w h
    refine wv h (r_assign h rfl) rfl ?_
    clear h a w; intro a w h
    refine wnil (c_then ?_)
    refine c_seq (c_region ?_)
    refine wv h (r_move h rfl) rfl ?_
    clear h a w; intro a w h
    refine wv h (r_move h rfl) rfl ?_
    clear h a w; intro a w h
    refine wv h (r_conv h rfl K.u_uint8 K.u_uint32 (C.u32_u8) ) rfl ?_
    clear h a w; intro a w h
    refine wv h (r_bin h rfl rfl (B.xor_u32)) rfl ?_
    clear h a w; intro a w h
    refine wv h (r_bin h rfl rfl (B.and_u32 (y := 15))) rfl ?_
    clear h a w; intro a w h
    refine wv h (r_indexAddrA h rfl rfl K.u_A16_uint32 K.sz_uint32 (((r ^^^ b.toUInt32) &&& 15).toNat) rfl (by rw [and15]; omega)) rfl ?_
    clear h a w; intro a w h
    refine wv h (r_loadG h rfl K.u_uint32 rfl hT _ (by omega) (tab_get (r ^^^ b.toUInt32))) rfl ?_
    clear h a w; intro a w h
    refine wv h (r_move h rfl) rfl ?_
    clear h a w; intro a w h
    refine wv h (r_bin h rfl rfl (B.shr_u32 (by decide))) rfl ?_
    clear h a w; intro a w h
    refine wv h (r_bin h rfl rfl (B.xor_u32)) rfl ?_
    clear h a w; intro a w h
    rw [crc_nib] at h
    generalize hr1 : crcT4 (r ^^^ (b.toUInt32 &&& 15)) = r1 at h
    refine wv h (r_assign h rfl) rfl ?_
    clear h a w; intro a w h
    refine wnil (c_then ?_)
    refine c_region ?_
    refine wv h (r_move h rfl) rfl ?_
    clear h a w; intro a w h
    refine wv h (r_move h rfl) rfl ?_
    clear h a w; intro a w h
    refine wv h (r_bin h rfl rfl (B.shr_u8 (by decide))) rfl ?_
    clear h a w; intro a w h
    refine wv h (r_conv h rfl K.u_uint8 K.u_uint32 (C.u32_u8) ) rfl ?_
    clear h a w; intro a w h
    refine wv h (r_bin h rfl rfl (B.xor_u32)) rfl ?_
    clear h a w; intro a w h
    refine wv h (r_bin h rfl rfl (B.and_u32 (y := 15))) rfl ?_
    clear h a w; intro a w h
    refine wv h (r_indexAddrA h rfl rfl K.u_A16_uint32 K.sz_uint32 (((r1 ^^^ (UInt8.ofNat (b.toNat / 2 ^ (4 : Int).toNat)).toUInt32) &&& 15).toNat) rfl (by rw [and15]; omega)) rfl ?_
    clear h a w; intro a w h
    refine wv h (r_loadG h rfl K.u_uint32 rfl hT _ (by omega) (tab_get (r1 ^^^ (UInt8.ofNat (b.toNat / 2 ^ (4 : Int).toNat)).toUInt32))) rfl ?_
    clear h a w; intro a w h
    refine wv h (r_move h rfl) rfl ?_
    clear h a w; intro a w h
    refine wv h (r_bin h rfl rfl (B.shr_u32 (by decide))) rfl ?_
    clear h a w; intro a w h
    refine wv h (r_bin h rfl rfl (B.xor_u32)) rfl ?_
    clear h a w; intro a w h
    rw [crc_nib, ← hr1, crc_byte, ← hr2] at h
    refine wv h (r_assign h rfl) rfl ?_
    clear h a w; intro a w h
    refine wnil ?_
    refine b_normal ?_
    refine c_then ?_
    refine c_region ?_
    refine wv h (r_bin h rfl rfl (B.add_i64 (by omega) (by omega))) rfl ?_
    clear h a w; intro a w h
    refine wv h (r_move h rfl) rfl ?_
    clear h a w; intro a w h
    refine wnil ?_
    refine ⟨i + 1, h.keep [3, 6, 7, 8], ?_, ?_⟩
    · show i + 1 ≤ l.length; omega
    · show l.length - (i + 1) < l.length - i; omega
   ·
    have hil : i = l.length := by omega
    subst hil
    rw [List.take_length] at h
    refine c_exit ?_
    refine e_then ?_
    refine e_then ?_
    refine e_here ?_
    refine c_then ?_
    refine c_seq (c_region ?_)
    refine wv h (r_move h rfl) rfl ?_
    clear h a w; intro a w h
    refine wv h (r_compl32 h rfl) rfl ?_
    clear h a w; intro a w h
    refine wv h (r_assign h rfl) rfl ?_
    clear h a w; intro a w h
    refine wnil (c_then ?_)
    refine c_ret ?_
    exact ret1 h rfl rfl ⟨(), rfl, h.2, trivial⟩

theorem ref_sum (s w : World) (v : Value) (l : List UInt8) (F : List HItem) (hl : l.length ≤ 4294967296) (hv : ViewsB F v l) (hs : Sat s w F) :
    Calls P n_ref01_Sum #[v] w (Ret s (fun _ : Unit => w32 (crcN l)) (fun _ => F) (fun _ => True)) := by
  refine enter K.fn_ref01_Sum rfl K.nt_ref01_Sum rfl hs ?_
  clear hs w; intro a w h
  refine c_seq (c_region ?_)
  refine wv h (r_assign h rfl) rfl ?_
  clear h a w; intro a w h
  refine wnil (c_then ?_)
  refine c_seq (c_region ?_)
  refine wv h (r_assign h rfl) rfl ?_
  clear h a w; intro a w h
  refine wnil (c_then ?_)
  refine c_seq ?_
  refine c_seq (c_region ?_)
  refine wv h (r_assign h rfl) rfl ?_
  clear h a w; intro a w h
  refine wnil (c_then ?_)
  refine c_block ?_
  refine c_loop (X := Nat) (fun i => [(0, v), (3, w32 (crcI l i)), (4, .int .i64 (i : Int))])
    (fun _ => F) (fun i => i ≤ 8 * l.length) (fun i => 8 * l.length - i) 0 (by rw [crcI_zero]; exact h.keep [0, 3, 4]) (by simp) ?_
  clear h a w; intro i a w hx h
  as_aux_lemma =>
   refine c_seq ?_
   refine c_seq (c_region ?_)
   refine wv h (r_move h rfl) rfl ?_
   clear h a w; intro a w h
   refine wv h (r_move h rfl) rfl ?_
   clear h a w; intro a w h
   refine wv h (r_lenB h rfl K.u_S_uint8 hv) rfl ?_
   clear h a w; intro a w h
   refine wv h (r_bin h rfl rfl (B.mul_i64 (by omega) (by omega))) rfl ?_
   clear h a w; intro a w h
   refine wv h (r_bin h rfl rfl (B.lss_int)) rfl ?_
   clear h a w; intro a w h
   refine wnil (c_then ?_)
   refine c_condD h rfl (fun ht1 => ?_) (fun ht1 => ?_)
   ·
    obtain ⟨b, hb⟩ : ∃ b, l[i / 8]? = some b := ⟨l[i / 8]'(by omega), by simp⟩
    have hsucc := crcI_succ l i b hb
    have hbit := bit_val b (i % 8) (by omega)
    have hbc := bitU_cases b (i % 8)
    refine c_skip ?_
    refine c_then ?_
    refine c_seq ?_
    refine c_block ?_
    refine c_seq (c_region ?_)
    refine wv h (r_move h rfl) rfl ?_
    clear h a w; intro a w h
    refine wv h (r_move h rfl) rfl ?_
    clear h a w; intro a w h
    refine wv h (r_bin h rfl rfl (B.quo_i64 (by omega) (by omega) (by omega))) rfl ?_
    clear h a w; intro a w h
    refine wl rfl (op_indexAddrb h rfl rfl K.u_S_uint8 K.sz_uint8 hv (i / 8) (by omega) hb rfl ?_)
    clear h a w; intro p a w hp h
    first
        | (refine wv h (r_load h rfl K.u_uint8 rfl 0 rfl rfl) rfl ?_)
        | (refine wv h (r_load h rfl K.u_uint8 rfl 1 rfl rfl) rfl ?_)
        | (refine wv h (r_load h rfl K.u_uint8 rfl 2 rfl rfl) rfl ?_)
        | (refine wv h (r_load h rfl K.u_uint8 rfl 3 rfl rfl) rfl ?_)
        | (refine wv h (r_load h rfl K.u_uint8 rfl 4 rfl rfl) rfl ?_)
        | (refine wv h (r_load h rfl K.u_uint8 rfl 5 rfl rfl) rfl ?_)
        | (refine wv h (r_load1 h rfl K.u_uint8 rfl (by assumption)) rfl ?_)
    clear h a w; intro a w h
    refine wv h (r_move h rfl) rfl ?_
    clear h a w; intro a w h
    refine wv h (r_bin h rfl rfl (B.rem_i64 (by omega) (by omega))) rfl ?_
    clear h a w; intro a w h
    refine wv h (r_bin h rfl rfl (B.shr_u8 (by omega))) rfl ?_
    clear h a w; intro a w h
    refine wv h (r_conv h rfl K.u_uint8 K.u_uint32 (C.u32_u8) ) rfl ?_
    clear h a w; intro a w h
    refine wv h (r_bin h rfl rfl (B.rem_u32 (y := 2) (by decide))) rfl ?_
    clear h a w; intro a w h
    rw [show ((i : Int) % 8) = ((i % 8 : Nat) : Int) by omega, hbit] at h
    rw [← ref_step _ _ hbc] at hsucc
    refine wv h (r_assign h rfl) rfl ?_
    clear h a w; intro a w h
    refine wnil (c_then ?_)
    refine c_seq (c_region ?_)
    refine wv h (r_move h rfl) rfl ?_
    clear h a w; intro a w h
    refine wv h (r_bin h rfl rfl (B.rem_u32 (y := 2) (by decide))) rfl ?_
    clear h a w; intro a w h
    refine wv h (r_move h rfl) rfl ?_
    clear h a w; intro a w h
    refine wv h (r_bin h rfl rfl (B.neq_u32)) rfl ?_
    clear h a w; intro a w h
    refine wnil (c_then ?_)
    refine c_condD h rfl (fun ht2 => ?_) (fun ht2 => ?_)
    ·
     rw [if_neg ht2] at hsucc
     as_aux_lemma =>
      refine c_region ?_
      refine wv h (r_move h rfl) rfl ?_
      clear h a w; intro a w h
      refine wv h (r_bin h rfl rfl (B.quo_u32 (y := 2) (by decide))) rfl ?_
      clear h a w; intro a w h
      refine wv h (r_bin h rfl rfl (B.xor_u32 (y := 2197175160))) rfl ?_
      clear h a w; intro a w h
      refine wv h (r_assign h rfl) rfl ?_
      clear h a w; intro a w h
      refine wnil ?_
      refine b_normal ?_
      refine c_then ?_
      refine c_region ?_
      refine wv h (r_move h rfl) rfl ?_
      clear h a w; intro a w h
      refine wv h (r_bin h rfl rfl (B.add_i64 (by omega) (by omega))) rfl ?_
      clear h a w; intro a w h
      refine wv h (r_assign h rfl) rfl ?_
      clear h a w; intro a w h
      refine wnil ?_
      refine ⟨i + 1, ?_, ?_, ?_⟩
      · rw [hsucc]; exact h.keep [0, 3, 4]
      · show i + 1 ≤ 8 * l.length; omega
      · show 8 * l.length - (i + 1) < 8 * l.length - i; omega
    ·
     rw [if_pos (by simpa using ht2)] at hsucc
     refine c_region ?_
     refine wv h (r_move h rfl) rfl ?_
     clear h a w; intro a w h
     refine wv h (r_bin h rfl rfl (B.quo_u32 (y := 2) (by decide))) rfl ?_
     clear h a w; intro a w h
     refine wv h (r_assign h rfl) rfl ?_
     clear h a w; intro a w h
     refine wnil ?_
     refine b_normal ?_
     refine c_then ?_
     refine c_region ?_
     refine wv h (r_move h rfl) rfl ?_
     clear h a w; intro a w h
     refine wv h (r_bin h rfl rfl (B.add_i64 (by omega) (by omega))) rfl ?_
     clear h a w; intro a w h
     refine wv h (r_assign h rfl) rfl ?_
     clear h a w; intro a w h
     refine wnil ?_
     refine ⟨i + 1, ?_, ?_, ?_⟩
     · rw [hsucc]; exact h.keep [0, 3, 4]
     · show i + 1 ≤ 8 * l.length; omega
     · show 8 * l.length - (i + 1) < 8 * l.length - i; omega
   ·
    have hil : i = 8 * l.length := by omega
    subst hil
    rw [crcI_end] at h
    refine c_exit ?_
    refine e_then ?_
    refine e_then ?_
    refine e_here ?_
    refine c_then ?_
    refine c_seq (c_region ?_)
    refine wv h (r_move h rfl) rfl ?_
    clear h a w; intro a w h
    refine wv h (r_bin h rfl rfl (B.sub_u32 (x := 4294967295))) rfl ?_
    clear h a w; intro a w h
    refine wv h (r_assign h rfl) rfl ?_
    clear h a w; intro a w h
    refine wnil (c_then ?_)
    refine c_ret ?_
    refine ret1 h rfl rfl ⟨(), ?_, h.2, trivial⟩
    have e : (4294967295 : UInt32) - crcR 4294967295 l = ~~~(crcR 4294967295 l) := sub_all _
    show Ending.returned (w32 ((4294967295 : UInt32) - crcR 4294967295 l)) = _
    rw [e]; rfl

end Go.Proofs.K
