/- Sealed sectors, numbers of four bytes: the contracts; and the laws on them and on sums that go with one another: their walks. -/
import Derived.Test.YtfhlbfalgdipiaaDoorCheck
import Derived.Test.YtfhlbfalgdipiaaDoorCheckPureb
set_option linter.unusedVariables false
set_option linter.unusedSimpArgs false
set_option maxRecDepth 10000
namespace Go.Proofs.K
open Go.Sl

theorem ref_four (s w : World) (u : UInt32) (F : List HItem) (hs : Sat s w F) :
    Calls P n_ref01_Four #[w32 u] w (Ret s (fun v : Value => v) (fun v => OwnB v (fourN u) :: F) (fun _ => True)) := by
  refine enter K.fn_ref01_Four rfl K.nt_ref01_Four rfl hs ?_
  clear hs w; intro a w h
  refine c_seq (c_region ?_)
  refine wv h (r_assign h rfl) rfl ?_
  clear h a w; intro a w h
  refine wnil (c_then ?_)
  refine c_seq (c_region ?_)
  refine wv h (r_move h rfl) rfl ?_
  clear h a w; intro a w h
  refine wv h (r_conv h rfl K.u_uint32 K.u_uint8 (C.u8_u32) ) rfl ?_
  clear h a w; intro a w h
  refine wv h (r_move h rfl) rfl ?_
  clear h a w; intro a w h
  refine wv h (r_bin h rfl rfl (B.quo_u32 (y := 256) (by decide))) rfl ?_
  clear h a w; intro a w h
  refine wv h (r_conv h rfl K.u_uint32 K.u_uint8 (C.u8_u32) ) rfl ?_
  clear h a w; intro a w h
  refine wv h (r_move h rfl) rfl ?_
  clear h a w; intro a w h
  refine wv h (r_bin h rfl rfl (B.quo_u32 (y := 65536) (by decide))) rfl ?_
  clear h a w; intro a w h
  refine wv h (r_conv h rfl K.u_uint32 K.u_uint8 (C.u8_u32) ) rfl ?_
  clear h a w; intro a w h
  refine wv h (r_move h rfl) rfl ?_
  clear h a w; intro a w h
  refine wv h (r_bin h rfl rfl (B.quo_u32 (y := 16777216) (by decide))) rfl ?_
  clear h a w; intro a w h
  refine wv h (r_conv h rfl K.u_uint32 K.u_uint8 (C.u8_u32) ) rfl ?_
  clear h a w; intro a w h
  refine wl rfl (op_buildSlice h K.u_S_uint8 K.sz_uint8 K.z_uint8 rfl rfl rfl rfl rfl (by simp [Value.cells, bv, w32, w64, sv]) rfl ?_)
  clear h a w; intro b a w h
  replace h := St.toOwnb h (fourN u) (NF.zero 4) rfl rfl
  refine wv h (r_assign h rfl) rfl ?_
  clear h a w; intro a w h
  refine wnil (c_then ?_)
  refine c_ret ?_
  exact ret1 h rfl rfl ⟨_, rfl, h.2, trivial⟩
theorem check_four (s w : World) (n : Int) (F : List HItem) (hs : Sat s w F) :
    Calls P n_check_Four #[.int .i64 n] w (Ret s (fun v : Value => v) (fun v => OwnB v (fourN (UInt32.ofInt n)) :: F) (fun _ => True)) := by
  refine enter K.fn_check_Four rfl K.nt_check_Four rfl hs ?_
  clear hs w; intro a w h
  refine c_seq (c_region ?_)
  refine wv h (r_assign h rfl) rfl ?_
  clear h a w; intro a w h
  refine wnil (c_then ?_)
  refine c_seq (c_region ?_)
  refine wv h (r_move h rfl) rfl ?_
  clear h a w; intro a w h
  refine wv h (r_conv h rfl K.u_int K.u_uint8 (C.u8_i64) ) rfl ?_
  clear h a w; intro a w h
  refine wv h (r_move h rfl) rfl ?_
  clear h a w; intro a w h
  refine wv h (r_bin h rfl rfl (B.shr_i64 (by omega) (by omega))) rfl ?_
  clear h a w; intro a w h
  refine wv h (r_conv h rfl K.u_int K.u_uint8 (C.u8_i64) ) rfl ?_
  clear h a w; intro a w h
  refine wv h (r_move h rfl) rfl ?_
  clear h a w; intro a w h
  refine wv h (r_bin h rfl rfl (B.shr_i64 (by omega) (by omega))) rfl ?_
  clear h a w; intro a w h
  refine wv h (r_conv h rfl K.u_int K.u_uint8 (C.u8_i64) ) rfl ?_
  clear h a w; intro a w h
  refine wv h (r_move h rfl) rfl ?_
  clear h a w; intro a w h
  refine wv h (r_bin h rfl rfl (B.shr_i64 (by omega) (by omega))) rfl ?_
  clear h a w; intro a w h
  refine wv h (r_conv h rfl K.u_int K.u_uint8 (C.u8_i64) ) rfl ?_
  clear h a w; intro a w h
  refine wl rfl (op_buildSlice h K.u_S_uint8 K.sz_uint8 K.z_uint8 rfl rfl rfl rfl rfl (by simp [Value.cells, bv, w32, w64, sv]) rfl ?_)
  clear h a w; intro b a w h
  replace h := St.toOwnb h (fourN (UInt32.ofInt n)) (NF.zero 4) (by rw [← four_int]; rfl) rfl
  refine wv h (r_assign h rfl) rfl ?_
  clear h a w; intro a w h
  refine wnil (c_then ?_)
  refine c_ret ?_
  exact ret1 h rfl rfl ⟨_, rfl, h.2, trivial⟩
end Go.Proofs.K
