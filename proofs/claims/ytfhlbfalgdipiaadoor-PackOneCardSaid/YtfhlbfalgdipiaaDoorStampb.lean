/- The contracts of package stamp: a key of bytes. -/
import Derived.Test.YtfhlbfalgdipiaaDoorStamp
set_option linter.unusedVariables false
set_option linter.unusedSimpArgs false
set_option maxRecDepth 10000
set_option maxHeartbeats 1000000
namespace Go.Proofs.K
open Go.Sl

def shaFV : List Value := sha0.lst.map w32
abbrev HasFirst (F : List HItem) : Prop := CellsAt F ⟨g_stamp_first, 0, none⟩ shaFV

theorem stamp_Of (s w : World) (v : Value) (p : List UInt8) (F : List HItem) (hT : HasParts F) (hF : HasFirst F) (hv : ViewsB F v p) (hp : p.length ≤ 2147483648) (hs : Sat s w F) :
    Calls P n_stamp_Of #[v] w (Ret s (fun _ : Unit => .agg (arr8 (sha p))) (fun _ => F) (fun _ => True)) := by
  refine enter K.fn_stamp_Of rfl K.nt_stamp_Of rfl hs ?_
  clear hs w; intro a w h
  refine c_seq (c_region ?_)
  refine wl rfl (op_alloc h K.z_api_Key rfl ?_)
  clear h a w; intro b2 a w h
  rw [show (Value.agg (Array.replicate 32 (Value.int .u8 0))).cells = arr8 (List.replicate 32 0) from (arr8_zero 32).symm] at h
  refine wnil (c_then ?_)
  refine c_seq (c_region ?_)
  refine wv h (r_move h rfl) rfl ?_
  clear h a w; intro a w h
  refine wl rfl (op_appendnbs h rfl rfl K.u_S_uint8 K.sz_uint8 K.z_uint8 rfl rfl (Src.bytes K.u_S_uint8 (by first | exact ViewsB.own 0 rfl | exact ViewsB.own 1 rfl | exact ViewsB.own 2 rfl | exact ViewsB.own 3 rfl | exact ViewsB.own 4 rfl | exact ViewsB.own 5 rfl | assumption | exact ViewsB.nil _ | exact ViewsB.arr 0 rfl (by first | assumption | rfl | (simp; done)) (Nat.le_refl _) (by simp [maxLen]) | exact ViewsB.arr 1 rfl (by first | assumption | rfl | (simp; done)) (Nat.le_refl _) (by simp [maxLen]) | exact ViewsB.arr 2 rfl (by first | assumption | rfl | (simp; done)) (Nat.le_refl _) (by simp [maxLen]) | exact ViewsB.arr 3 rfl (by first | assumption | rfl | (simp; done)) (Nat.le_refl _) (by simp [maxLen]) | exact ViewsB.arr 4 rfl (by first | assumption | rfl | (simp; done)) (Nat.le_refl _) (by simp [maxLen]) | exact ViewsB.cons (by assumption) _ | exact ViewsB.cons (ViewsB.cons (by assumption) _) _ | exact ViewsB.cons (ViewsB.cons (ViewsB.cons (by assumption) _) _) _ | exact ViewsB.cons (ViewsB.cons (ViewsB.cons (ViewsB.cons (by assumption) _) _) _) _) h.2) (by first | omega | (simp only [List.length_cons, List.length_nil]; omega) | (simp; done) | (simp; omega)) rfl ?_)
  clear h a w; intro v11 a w h
  refine wv h (r_assign h rfl) rfl ?_
  clear h a w; intro a w h
  refine wnil (c_then ?_)
  refine c_seq (c_region ?_)
  refine wv h (r_move h rfl) rfl ?_
  clear h a w; intro a w h
  refine wl rfl (op_buildSlice h K.u_S_uint8 K.sz_uint8 K.z_uint8 rfl rfl rfl rfl rfl (by simp [Value.cells, bv, w32, w64, sv]) rfl ?_)
  clear h a w; intro b13 a w h
  first
    | (refine wl rfl (op_appendb (u := 128) h rfl rfl K.u_S_uint8 K.sz_uint8 K.z_uint8 rfl rfl 0 rfl (by first | omega | (simp only [List.length_cons, List.length_nil]; omega) | (simp; done) | (simp; omega)) rfl ?_))
    | (refine wl rfl (op_appendb (u := 128) h rfl rfl K.u_S_uint8 K.sz_uint8 K.z_uint8 rfl rfl 1 rfl (by first | omega | (simp only [List.length_cons, List.length_nil]; omega) | (simp; done) | (simp; omega)) rfl ?_))
    | (refine wl rfl (op_appendb (u := 128) h rfl rfl K.u_S_uint8 K.sz_uint8 K.z_uint8 rfl rfl 2 rfl (by first | omega | (simp only [List.length_cons, List.length_nil]; omega) | (simp; done) | (simp; omega)) rfl ?_))
    | (refine wl rfl (op_appendb (u := 128) h rfl rfl K.u_S_uint8 K.sz_uint8 K.z_uint8 rfl rfl 3 rfl (by first | omega | (simp only [List.length_cons, List.length_nil]; omega) | (simp; done) | (simp; omega)) rfl ?_))
    | (refine wl rfl (op_appendb (u := 128) h rfl rfl K.u_S_uint8 K.sz_uint8 K.z_uint8 rfl rfl 4 rfl (by first | omega | (simp only [List.length_cons, List.length_nil]; omega) | (simp; done) | (simp; omega)) rfl ?_))
    | (refine wl rfl (op_appendb (u := 128) h rfl rfl K.u_S_uint8 K.sz_uint8 K.z_uint8 rfl rfl 5 rfl (by first | omega | (simp only [List.length_cons, List.length_nil]; omega) | (simp; done) | (simp; omega)) rfl ?_))
  clear h a w; intro v14 a w h
  (try simp only [List.set_cons_zero, List.set_cons_succ] at h)
  refine wv h (r_assign h rfl) rfl ?_
  clear h a w; intro a w h
  generalize hG : (Blk b2 (.cells (arr8 (List.replicate 32 0)) t_api_Key) :: F) = G at h
  have hvG : ViewsB G v p := by rw [← hG]; exact hv.cons _
  have hTG : HasParts G := by rw [← hG]; exact hT.cons _
  have hFG : HasFirst G := by rw [← hG]; exact hF.cons _
  refine wnil (c_then ?_)
  refine c_seq ?_
  refine c_block ?_
  refine c_loopX h (X := Nat × Value) (fun x => [(0, v), (2, .pointer (some ⟨b2, 0, none⟩)), (3, x.2)])
    (fun x => OwnB x.2 (p ++ [128] ++ List.replicate x.1 0) :: G) (fun x => x.1 ≤ shaZeros p.length) (fun x => shaZeros p.length - x.1) (0, v14) ?_ (Nat.zero_le _) ?_
  · have e : p ++ [128] = p ++ [128] ++ List.replicate 0 0 := by simp
    rw [e] at h
    exact h.keep [0, 2, 3]
  clear h a w; intro x a w hx h
  obtain ⟨j, va⟩ := x
  replace hx : j ≤ shaZeros p.length := hx
  have hz : shaZeros p.length ≤ 63 := by unfold shaZeros; omega
  dsimp only at h
  as_aux_lemma =>
   refine c_seq ?_
   refine c_seq (c_region ?_)
   refine wv h (r_move h rfl) rfl ?_
   clear h a w; intro a w h
   refine wv h (r_lenB h rfl K.u_S_uint8 (by first | exact ViewsB.own 0 rfl | exact ViewsB.own 1 rfl | exact ViewsB.own 2 rfl | exact ViewsB.own 3 rfl | exact ViewsB.own 4 rfl | exact ViewsB.own 5 rfl | assumption | exact ViewsB.nil _ | exact ViewsB.arr 0 rfl (by first | assumption | rfl | (simp; done)) (Nat.le_refl _) (by simp [maxLen]) | exact ViewsB.arr 1 rfl (by first | assumption | rfl | (simp; done)) (Nat.le_refl _) (by simp [maxLen]) | exact ViewsB.arr 2 rfl (by first | assumption | rfl | (simp; done)) (Nat.le_refl _) (by simp [maxLen]) | exact ViewsB.arr 3 rfl (by first | assumption | rfl | (simp; done)) (Nat.le_refl _) (by simp [maxLen]) | exact ViewsB.arr 4 rfl (by first | assumption | rfl | (simp; done)) (Nat.le_refl _) (by simp [maxLen]) | exact ViewsB.cons (by assumption) _ | exact ViewsB.cons (ViewsB.cons (by assumption) _) _ | exact ViewsB.cons (ViewsB.cons (ViewsB.cons (by assumption) _) _) _ | exact ViewsB.cons (ViewsB.cons (ViewsB.cons (ViewsB.cons (by assumption) _) _) _) _)) rfl ?_
   clear h a w; intro a w h
   refine wv h (r_bin h rfl rfl (B.rem_i64 (by omega) (by omega))) rfl ?_
   clear h a w; intro a w h
   refine wv h (r_bin h rfl rfl (B.neq_int)) rfl ?_
   clear h a w; intro a w h
   refine wnil (c_then ?_)
   first
    | refine c_condD h rfl (fun ht1 => ?_) (fun ht1 => ?_)
    | refine c_condP h rfl (by first | (simp only [Bool.and_eq_true, Bool.or_eq_true, Bool.not_eq_true', decide_eq_true_eq, decide_eq_false_iff_not, ne_eq, Bool.not_eq_eq_eq_not, Bool.not_true, beq_iff_eq, bne_iff_ne]; exact Iff.rfl) | exact Iff.rfl) (fun ht1 => ?_) (fun ht1 => ?_)
   ·
    simp at ht1
    have hj : j < shaZeros p.length := by unfold shaZeros at hx ⊢; omega
    refine c_skip ?_
    refine c_then ?_
    refine c_block ?_
    refine c_region ?_
    refine wv h (r_move h rfl) rfl ?_
    clear h a w; intro a w h
    refine wl rfl (op_buildSlice h K.u_S_uint8 K.sz_uint8 K.z_uint8 rfl rfl rfl rfl rfl (by simp [Value.cells, bv, w32, w64, sv]) rfl ?_)
    clear h a w; intro b20 a w h
    first
        | (refine wl rfl (op_appendb (u := 0) h rfl rfl K.u_S_uint8 K.sz_uint8 K.z_uint8 rfl rfl 0 rfl (by first | omega | (simp only [List.length_cons, List.length_nil]; omega) | (simp; done) | (simp; omega)) rfl ?_))
        | (refine wl rfl (op_appendb (u := 0) h rfl rfl K.u_S_uint8 K.sz_uint8 K.z_uint8 rfl rfl 1 rfl (by first | omega | (simp only [List.length_cons, List.length_nil]; omega) | (simp; done) | (simp; omega)) rfl ?_))
        | (refine wl rfl (op_appendb (u := 0) h rfl rfl K.u_S_uint8 K.sz_uint8 K.z_uint8 rfl rfl 2 rfl (by first | omega | (simp only [List.length_cons, List.length_nil]; omega) | (simp; done) | (simp; omega)) rfl ?_))
        | (refine wl rfl (op_appendb (u := 0) h rfl rfl K.u_S_uint8 K.sz_uint8 K.z_uint8 rfl rfl 3 rfl (by first | omega | (simp only [List.length_cons, List.length_nil]; omega) | (simp; done) | (simp; omega)) rfl ?_))
        | (refine wl rfl (op_appendb (u := 0) h rfl rfl K.u_S_uint8 K.sz_uint8 K.z_uint8 rfl rfl 4 rfl (by first | omega | (simp only [List.length_cons, List.length_nil]; omega) | (simp; done) | (simp; omega)) rfl ?_))
        | (refine wl rfl (op_appendb (u := 0) h rfl rfl K.u_S_uint8 K.sz_uint8 K.z_uint8 rfl rfl 5 rfl (by first | omega | (simp only [List.length_cons, List.length_nil]; omega) | (simp; done) | (simp; omega)) rfl ?_))
    clear h a w; intro v21 a w h
    (try simp only [List.set_cons_zero, List.set_cons_succ] at h)
    refine wv h (r_assign h rfl) rfl ?_
    clear h a w; intro a w h
    rw [List.append_assoc _ _ [0], show List.replicate j (0 : UInt8) ++ [0] = List.replicate (j + 1) 0 from List.replicate_succ'.symm] at h
    refine wnil ?_
    refine b_normal ?_
    exact ⟨(j + 1, v21), h.keep [0, 2, 3], hj, by show shaZeros p.length - (j + 1) < shaZeros p.length - j; omega⟩
   ·
    simp at ht1
    obtain rfl : j = shaZeros p.length := by unfold shaZeros at hx ⊢; omega
    refine c_exit ?_
    refine e_then ?_
    refine e_then ?_
    refine e_here ?_
    refine c_then ?_
    refine c_seq (c_region ?_)
    refine wv h (r_move h rfl) rfl ?_
    clear h a w; intro a w h
    refine wv h (r_lenB h rfl K.u_S_uint8 (by first | exact ViewsB.own 0 rfl | exact ViewsB.own 1 rfl | exact ViewsB.own 2 rfl | exact ViewsB.own 3 rfl | exact ViewsB.own 4 rfl | exact ViewsB.own 5 rfl | assumption | exact ViewsB.nil _ | exact ViewsB.arr 0 rfl (by first | assumption | rfl | (simp; done)) (Nat.le_refl _) (by simp [maxLen]) | exact ViewsB.arr 1 rfl (by first | assumption | rfl | (simp; done)) (Nat.le_refl _) (by simp [maxLen]) | exact ViewsB.arr 2 rfl (by first | assumption | rfl | (simp; done)) (Nat.le_refl _) (by simp [maxLen]) | exact ViewsB.arr 3 rfl (by first | assumption | rfl | (simp; done)) (Nat.le_refl _) (by simp [maxLen]) | exact ViewsB.arr 4 rfl (by first | assumption | rfl | (simp; done)) (Nat.le_refl _) (by simp [maxLen]) | exact ViewsB.cons (by assumption) _ | exact ViewsB.cons (ViewsB.cons (by assumption) _) _ | exact ViewsB.cons (ViewsB.cons (ViewsB.cons (by assumption) _) _) _ | exact ViewsB.cons (ViewsB.cons (ViewsB.cons (ViewsB.cons (by assumption) _) _) _) _)) rfl ?_
    clear h a w; intro a w h
    refine wv h (r_conv h rfl K.u_int K.u_uint64 (C.u64_i64) ) rfl ?_
    clear h a w; intro a w h
    refine wv h (r_bin h rfl rfl (B.mul_u64 (y := 8))) rfl ?_
    clear h a w; intro a w h
    refine wv h (r_assign h rfl) rfl ?_
    clear h a w; intro a w h
    have hn : (UInt64.ofInt (p.length : Int) * 8).toNat = p.length * 8 := by
      have e : (UInt64.ofInt (p.length : Int)).toNat = p.length := by simp [UInt64.ofInt, UInt64.toNat_ofNat']; omega
      rw [UInt64.toNat_mul, e]
      show p.length * 8 % 2 ^ 64 = _
      omega
    generalize UInt64.ofInt (p.length : Int) * 8 = n64 at h hn
    refine wnil (c_then ?_)
    refine c_seq ?_
    refine c_seq (c_region ?_)
    refine wv h (r_assign h rfl) rfl ?_
    clear h a w; intro a w h
    refine wnil (c_then ?_)
    refine c_block ?_
    refine c_loopX h (X := Nat × Value) (fun x => [(2, .pointer (some ⟨b2, 0, none⟩)), (3, x.2), (4, w64 n64), (5, .int .i64 (7 - (x.1 : Int)))])
      (fun x => OwnB x.2 (p ++ [128] ++ List.replicate (shaZeros p.length) 0 ++ shaTail p.length x.1) :: G) (fun x => x.1 ≤ 8) (fun x => 8 - x.1) (0, va) ?_ (Nat.zero_le _) ?_
    · have e : p ++ [128] ++ List.replicate (shaZeros p.length) 0 = p ++ [128] ++ List.replicate (shaZeros p.length) 0 ++ shaTail p.length 0 := by simp [shaTail]
      rw [e] at h
      exact h.keep [2, 3, 4, 5]
    clear h a w; intro x a w hx h
    obtain ⟨j, va⟩ := x
    replace hx : j ≤ 8 := hx
    have htl : (shaTail p.length j).length = j := by simp [shaTail]
    dsimp only at h
    as_aux_lemma =>
     refine c_seq ?_
     refine c_seq (c_region ?_)
     refine wv h (r_move h rfl) rfl ?_
     clear h a w; intro a w h
     refine wv h (r_bin h rfl rfl (B.geq_int)) rfl ?_
     clear h a w; intro a w h
     refine wnil (c_then ?_)
     first
      | refine c_condD h rfl (fun ht2 => ?_) (fun ht2 => ?_)
      | refine c_condP h rfl (by first | (simp only [Bool.and_eq_true, Bool.or_eq_true, Bool.not_eq_true', decide_eq_true_eq, decide_eq_false_iff_not, ne_eq, Bool.not_eq_eq_eq_not, Bool.not_true, beq_iff_eq, bne_iff_ne]; exact Iff.rfl) | exact Iff.rfl) (fun ht2 => ?_) (fun ht2 => ?_)
     ·
      refine c_skip ?_
      refine c_then ?_
      refine c_seq ?_
      refine c_block ?_
      refine c_region ?_
      refine wv h (r_move h rfl) rfl ?_
      clear h a w; intro a w h
      refine wv h (r_move h rfl) rfl ?_
      clear h a w; intro a w h
      refine wv h (r_move h rfl) rfl ?_
      clear h a w; intro a w h
      refine wv h (r_bin h rfl rfl (B.mul_i64 (by omega) (by omega))) rfl ?_
      clear h a w; intro a w h
      refine wv h (r_bin h rfl rfl (B.shr_u64 (by omega))) rfl ?_
      clear h a w; intro a w h
      refine wv h (r_conv h rfl K.u_uint64 K.u_uint8 (C.u8_u64) ) rfl ?_
      clear h a w; intro a w h
      rw [toUInt8_ofNat64, hn, show (8 * (7 - (j : Int))).toNat = 56 - 8 * j by omega] at h
      refine wl rfl (op_buildSlice h K.u_S_uint8 K.sz_uint8 K.z_uint8 rfl rfl rfl rfl rfl (by simp [Value.cells, bv, w32, w64, sv]) rfl ?_)
      clear h a w; intro b36 a w h
      first
            | (refine wl rfl (op_appendb h rfl rfl K.u_S_uint8 K.sz_uint8 K.z_uint8 rfl rfl 0 rfl (by first | omega | (simp only [List.length_cons, List.length_nil]; omega) | (simp; done) | (simp; omega)) rfl ?_))
            | (refine wl rfl (op_appendb h rfl rfl K.u_S_uint8 K.sz_uint8 K.z_uint8 rfl rfl 1 rfl (by first | omega | (simp only [List.length_cons, List.length_nil]; omega) | (simp; done) | (simp; omega)) rfl ?_))
            | (refine wl rfl (op_appendb h rfl rfl K.u_S_uint8 K.sz_uint8 K.z_uint8 rfl rfl 2 rfl (by first | omega | (simp only [List.length_cons, List.length_nil]; omega) | (simp; done) | (simp; omega)) rfl ?_))
            | (refine wl rfl (op_appendb h rfl rfl K.u_S_uint8 K.sz_uint8 K.z_uint8 rfl rfl 3 rfl (by first | omega | (simp only [List.length_cons, List.length_nil]; omega) | (simp; done) | (simp; omega)) rfl ?_))
            | (refine wl rfl (op_appendb h rfl rfl K.u_S_uint8 K.sz_uint8 K.z_uint8 rfl rfl 4 rfl (by first | omega | (simp only [List.length_cons, List.length_nil]; omega) | (simp; done) | (simp; omega)) rfl ?_))
            | (refine wl rfl (op_appendb h rfl rfl K.u_S_uint8 K.sz_uint8 K.z_uint8 rfl rfl 5 rfl (by first | omega | (simp only [List.length_cons, List.length_nil]; omega) | (simp; done) | (simp; omega)) rfl ?_))
      clear h a w; intro v37 a w h
      (try simp only [List.set_cons_zero, List.set_cons_succ] at h)
      refine wv h (r_assign h rfl) rfl ?_
      clear h a w; intro a w h
      rw [List.append_assoc _ (shaTail p.length j), shaTail_succ] at h
      refine wnil ?_
      refine b_normal ?_
      refine c_then ?_
      refine c_region ?_
      refine wv h (r_move h rfl) rfl ?_
      clear h a w; intro a w h
      refine wv h (r_bin h rfl rfl (B.sub_i64 (by omega) (by omega))) rfl ?_
      clear h a w; intro a w h
      refine wv h (r_assign h rfl) rfl ?_
      clear h a w; intro a w h
      refine wnil ?_
      refine ⟨(j + 1, v37), ?_, (by show j + 1 ≤ 8; omega), by show 8 - (j + 1) < 8 - j; omega⟩
      rw [show 7 - (j : Int) - 1 = 7 - ((j + 1 : Nat) : Int) by omega] at h
      exact h.keep [2, 3, 4, 5]
     ·
      obtain rfl : j = 8 := by omega
      rw [← shaPad_eq] at h
      have hpl := shaPad_len p
      have hsha : sha p = (shaAll ((shaPad p).length / 64) sha0 (shaPad p)).lst.flatMap shaBytes := rfl
      generalize shaPad p = pad at h hpl hsha
      generalize hR : shaAll (pad.length / 64) sha0 pad = R at hsha
      refine c_exit ?_
      refine e_then ?_
      refine e_then ?_
      refine e_here ?_
      refine c_then ?_
      refine c_seq (c_region ?_)
      refine wv h (r_loadCA h rfl K.u_A8_uint32 rfl K.sz_A8_uint32 (hFG.cons _) rfl) rfl ?_
      clear h a w; intro a w h
      refine wl rfl (op_alloc h K.z_A8_uint32 rfl ?_)
      clear h a w; intro b6 a w h
      rw [show (Value.agg (Array.replicate 8 (Value.int .u32 0))).cells = arr32 (List.replicate 8 0) from (arr32_zero 8).symm] at h
      refine wl rfl (op_storeA32 (l := sha0.lst) h rfl rfl K.sz_A8_uint32 rfl 0 rfl rfl ?_)
      clear h a w; intro a w h
      refine wnil (c_then ?_)
      refine c_seq ?_
      refine c_block ?_
      refine c_loopX h (X := Value × List UInt8 × Sha8) (fun x => [(2, .pointer (some ⟨b2, 0, none⟩)), (3, x.1), (6, .pointer (some ⟨b6, 0, none⟩))])
        (fun x => Blk b6 (.cells (arr32 x.2.2.lst) t_A8_uint32) :: OwnB x.1 x.2.1 :: G) (fun x => x.2.1.length % 64 = 0 ∧ shaAll (x.2.1.length / 64) x.2.2 x.2.1 = R ∧ x.2.1.length ≤ pad.length) (fun x => x.2.1.length) (va, pad, sha0) (h.keep [2, 3, 6]) ⟨hpl, hR, Nat.le_refl _⟩ ?_
      clear h a w; intro x a w hx h
      obtain ⟨va, rest, hh⟩ := x
      obtain ⟨hx1, hx2, hx3⟩ := hx
      replace hx1 : rest.length % 64 = 0 := hx1
      replace hx3 : rest.length ≤ pad.length := hx3
      replace hx2 : shaAll (rest.length / 64) hh rest = R := hx2
      dsimp only at h
      as_aux_lemma =>
       refine c_seq ?_
       refine c_seq (c_region ?_)
       refine wv h (r_move h rfl) rfl ?_
       clear h a w; intro a w h
       refine wv h (r_lenB h rfl K.u_S_uint8 (by first | exact ViewsB.own 0 rfl | exact ViewsB.own 1 rfl | exact ViewsB.own 2 rfl | exact ViewsB.own 3 rfl | exact ViewsB.own 4 rfl | exact ViewsB.own 5 rfl | assumption | exact ViewsB.nil _ | exact ViewsB.arr 0 rfl (by first | assumption | rfl | (simp; done)) (Nat.le_refl _) (by simp [maxLen]) | exact ViewsB.arr 1 rfl (by first | assumption | rfl | (simp; done)) (Nat.le_refl _) (by simp [maxLen]) | exact ViewsB.arr 2 rfl (by first | assumption | rfl | (simp; done)) (Nat.le_refl _) (by simp [maxLen]) | exact ViewsB.arr 3 rfl (by first | assumption | rfl | (simp; done)) (Nat.le_refl _) (by simp [maxLen]) | exact ViewsB.arr 4 rfl (by first | assumption | rfl | (simp; done)) (Nat.le_refl _) (by simp [maxLen]) | exact ViewsB.cons (by assumption) _ | exact ViewsB.cons (ViewsB.cons (by assumption) _) _ | exact ViewsB.cons (ViewsB.cons (ViewsB.cons (by assumption) _) _) _ | exact ViewsB.cons (ViewsB.cons (ViewsB.cons (ViewsB.cons (by assumption) _) _) _) _)) rfl ?_
       clear h a w; intro a w h
       refine wv h (r_bin h rfl rfl (B.gtr_int)) rfl ?_
       clear h a w; intro a w h
       refine wnil (c_then ?_)
       first
        | refine c_condD h rfl (fun ht3 => ?_) (fun ht3 => ?_)
        | refine c_condP h rfl (by first | (simp only [Bool.and_eq_true, Bool.or_eq_true, Bool.not_eq_true', decide_eq_true_eq, decide_eq_false_iff_not, ne_eq, Bool.not_eq_eq_eq_not, Bool.not_true, beq_iff_eq, bne_iff_ne]; exact Iff.rfl) | exact Iff.rfl) (fun ht3 => ?_) (fun ht3 => ?_)
       ·
        have h64 : 64 ≤ rest.length := by omega
        have hst := shaAll_step rest hh hx1 (by omega)
        refine c_skip ?_
        refine c_then ?_
        refine c_seq ?_
        refine c_block ?_
        refine c_held ((OwnB va rest :: G)) 5 K.mixed rfl h ?_
        clear h a w; intro a w h
        refine h_take (listed' := #[false, true, false, false, false]) h 1 (by as_aux_lemma => kernel_rfl) rfl (by as_aux_lemma => kernel_rfl) (by as_aux_lemma => kernel_rfl) (by as_aux_lemma => kernel_rfl) (fun _ _ _ hh => hh) (by first | exact h.2 | exact h.2.drop 1 | exact h.2.drop 2 | exact h.2.drop 3 | exact h.2.drop 4 | exact h.2.drop 5 | exact h.2.drop 6) (fun w hw => r_move ⟨h.1, hw⟩ rfl) rfl ?_
        clear h a w; intro a w h
        refine h_take (listed' := #[false, true, true, false, false]) h 2 (by as_aux_lemma => kernel_rfl) rfl (by as_aux_lemma => kernel_rfl) (by as_aux_lemma => kernel_rfl) (by as_aux_lemma => kernel_rfl) (fun _ _ _ hh => hh) (by first | exact h.2 | exact h.2.drop 1 | exact h.2.drop 2 | exact h.2.drop 3 | exact h.2.drop 4 | exact h.2.drop 5 | exact h.2.drop 6) (fun w hw => r_sliceB ⟨h.1, hw⟩ rfl K.u_S_uint8 K.sz_uint8 (by first | exact ViewsB.own 0 rfl | exact ViewsB.own 1 rfl | exact ViewsB.own 2 rfl | exact ViewsB.own 3 rfl | exact ViewsB.own 4 rfl | exact ViewsB.own 5 rfl | assumption | exact ViewsB.nil _ | exact ViewsB.arr 0 rfl (by first | assumption | rfl | (simp; done)) (Nat.le_refl _) (by simp [maxLen]) | exact ViewsB.arr 1 rfl (by first | assumption | rfl | (simp; done)) (Nat.le_refl _) (by simp [maxLen]) | exact ViewsB.arr 2 rfl (by first | assumption | rfl | (simp; done)) (Nat.le_refl _) (by simp [maxLen]) | exact ViewsB.arr 3 rfl (by first | assumption | rfl | (simp; done)) (Nat.le_refl _) (by simp [maxLen]) | exact ViewsB.arr 4 rfl (by first | assumption | rfl | (simp; done)) (Nat.le_refl _) (by simp [maxLen]) | exact ViewsB.cons (by assumption) _ | exact ViewsB.cons (ViewsB.cons (by assumption) _) _ | exact ViewsB.cons (ViewsB.cons (ViewsB.cons (by assumption) _) _) _ | exact ViewsB.cons (ViewsB.cons (ViewsB.cons (ViewsB.cons (by assumption) _) _) _) _) _ _ Bnd.no (Bnd.of rfl (by omega)) (by first | omega | (simp only [List.length_cons, List.length_nil]; omega) | (simp; done) | (simp; omega)) (by first | omega | (simp only [List.length_cons, List.length_nil]; omega) | (simp; done) | (simp; omega))) rfl ?_
        clear h a w; intro a w h
        refine h_only (listed' := #[true, true, true, false, false]) 0 (by as_aux_lemma => kernel_rfl) rfl rfl (by as_aux_lemma => kernel_rfl) ?_
        first
                | (refine op_run h (r_loadA32 h rfl K.u_A8_uint32 rfl K.sz_A8_uint32 0 rfl (by first | rfl | assumption | (simp; done) | (simp; omega) | omega)) rfl h.2 ?_)
                | (refine op_run h (r_loadA32 h rfl K.u_A8_uint32 rfl K.sz_A8_uint32 1 rfl (by first | rfl | assumption | (simp; done) | (simp; omega) | omega)) rfl h.2 ?_)
                | (refine op_run h (r_loadA32 h rfl K.u_A8_uint32 rfl K.sz_A8_uint32 2 rfl (by first | rfl | assumption | (simp; done) | (simp; omega) | omega)) rfl h.2 ?_)
                | (refine op_run h (r_loadA32 h rfl K.u_A8_uint32 rfl K.sz_A8_uint32 3 rfl (by first | rfl | assumption | (simp; done) | (simp; omega) | omega)) rfl h.2 ?_)
                | (refine op_run h (r_loadA32 h rfl K.u_A8_uint32 rfl K.sz_A8_uint32 4 rfl (by first | rfl | assumption | (simp; done) | (simp; omega) | omega)) rfl h.2 ?_)
                | (refine op_run h (r_loadA32 h rfl K.u_A8_uint32 rfl K.sz_A8_uint32 5 rfl (by first | rfl | assumption | (simp; done) | (simp; omega) | omega)) rfl h.2 ?_)
                | (refine op_run h (r_loadCA h rfl K.u_A8_uint32 rfl K.sz_A8_uint32 (by assumption) (by first | rfl | assumption | (simp; done) | (simp; omega) | omega)) rfl h.2 ?_)
        clear h a w; intro a w h
        refine ⟨(by first | exact h.2 | exact h.2.drop 1 | exact h.2.drop 2 | exact h.2.drop 3 | exact h.2.drop 4 | exact h.2.drop 5 | exact h.2.drop 6), ?_⟩
        refine h_only (listed' := #[true, true, true, true, false]) 3 (by as_aux_lemma => kernel_rfl) rfl rfl (by as_aux_lemma => kernel_rfl) ?_
        refine op_call h rfl K.go_stamp_block (stamp_block s _ hh _ (rest.take 64) (by rw [List.length_take]; omega) _ ((hTG.cons _).cons _) (ViewsB.sub (i := 0) (j := 64) (ViewsB.own 1 rfl) (by omega) (by omega)) h.2) rfl ?_
        clear h a w; intro x a w hx h
        refine ⟨(by first | exact h.2 | exact h.2.drop 1 | exact h.2.drop 2 | exact h.2.drop 3 | exact h.2.drop 4 | exact h.2.drop 5 | exact h.2.drop 6), ?_⟩
        refine h_only (listed' := #[true, true, true, true, true]) 4 (by as_aux_lemma => kernel_rfl) rfl rfl (by as_aux_lemma => kernel_rfl) ?_
        first
                | (refine op_storeA32 h rfl rfl K.sz_A8_uint32 (by first | rfl | assumption | (simp; done) | (simp; omega) | omega) 0 rfl (by first | rfl | (simp [arr32]; done) | (simp [arr32]; omega) | (simp [arr32]; assumption)) ?_)
                | (refine op_storeA32 h rfl rfl K.sz_A8_uint32 (by first | rfl | assumption | (simp; done) | (simp; omega) | omega) 1 rfl (by first | rfl | (simp [arr32]; done) | (simp [arr32]; omega) | (simp [arr32]; assumption)) ?_)
                | (refine op_storeA32 h rfl rfl K.sz_A8_uint32 (by first | rfl | assumption | (simp; done) | (simp; omega) | omega) 2 rfl (by first | rfl | (simp [arr32]; done) | (simp [arr32]; omega) | (simp [arr32]; assumption)) ?_)
                | (refine op_storeA32 h rfl rfl K.sz_A8_uint32 (by first | rfl | assumption | (simp; done) | (simp; omega) | omega) 3 rfl (by first | rfl | (simp [arr32]; done) | (simp [arr32]; omega) | (simp [arr32]; assumption)) ?_)
                | (refine op_storeA32 h rfl rfl K.sz_A8_uint32 (by first | rfl | assumption | (simp; done) | (simp; omega) | omega) 4 rfl (by first | rfl | (simp [arr32]; done) | (simp [arr32]; omega) | (simp [arr32]; assumption)) ?_)
                | (refine op_storeA32 h rfl rfl K.sz_A8_uint32 (by first | rfl | assumption | (simp; done) | (simp; omega) | omega) 5 rfl (by first | rfl | (simp [arr32]; done) | (simp [arr32]; omega) | (simp [arr32]; assumption)) ?_)
        clear h a w; intro a w h
        (try simp only [List.set_cons_zero, List.set_cons_succ] at h)
        refine ⟨(by first | exact h.2 | exact h.2.drop 1 | exact h.2.drop 2 | exact h.2.drop 3 | exact h.2.drop 4 | exact h.2.drop 5 | exact h.2.drop 6), ?_⟩
        refine h_done (by kernel_rfl) ?_
        refine b_normal ?_
        refine c_then ?_
        refine c_region ?_
        refine wv h (r_move h rfl) rfl ?_
        clear h a w; intro a w h
        refine wl rfl (op_sliceOwnb h rfl K.u_S_uint8 K.sz_uint8 1 rfl 64 rest.length (Bnd.of rfl rfl) Bnd.no (by omega) (by omega) rfl ?_)
        clear h a w; intro v43 a w h
        simp only [List.set_cons_zero, List.set_cons_succ] at h
        rw [show (rest.drop 64).take (rest.length - 64) = rest.drop 64 from List.take_of_length_le (by rw [List.length_drop]; omega)] at h
        refine wv h (r_assign h rfl) rfl ?_
        clear h a w; intro a w h
        refine wnil ?_
        refine ⟨(v43, rest.drop 64, shaBlock hh (rest.take 64)), h.keep [2, 3, 6], ⟨?_, ?_, ?_⟩, ?_⟩
        · show (rest.drop 64).length % 64 = 0; rw [List.length_drop]; omega
        · show shaAll ((rest.drop 64).length / 64) _ _ = R; rw [← hst]; exact hx2
        · show (rest.drop 64).length ≤ pad.length; rw [List.length_drop]; omega
        · show (rest.drop 64).length < rest.length; rw [List.length_drop]; omega
       ·
        have h0 : rest.length = 0 := by omega
        rw [h0] at hx2
        obtain rfl : hh = R := hx2
        rw [← hG] at h
        have hDl : (hh.lst.flatMap shaBytes).length = 32 := by simp [Sha8.lst, shaBytes]
        refine c_exit ?_
        refine e_then ?_
        refine e_then ?_
        refine e_here ?_
        refine c_then ?_
        refine c_seq (c_region ?_)
        refine wl rfl (op_alloc h K.z_api_Key rfl ?_)
        clear h a w; intro b7 a w h
        rw [show (Value.agg (Array.replicate 32 (Value.int .u8 0))).cells = arr8 (List.replicate 32 0) from (arr8_zero 32).symm] at h
        generalize hD : hh.lst.flatMap shaBytes = D at *
        replace h : St 81 s a w _ (Blk b7 (.cells (arr8 (D.take (4 * 0) ++ List.replicate (32 - 4 * 0) 0)) t_api_Key) :: Blk b6 (.cells (arr32 hh.lst) t_A8_uint32) :: OwnB va rest :: Blk b2 (.cells (arr8 (List.replicate 32 0)) t_api_Key) :: F) := h
        refine wnil (c_then ?_)
        refine c_seq ?_
        refine c_seq (c_region ?_)
        first
                | (refine wv h (r_loadA32 h rfl K.u_A8_uint32 rfl K.sz_A8_uint32 0 rfl (by first | rfl | assumption | (simp; done) | (simp; omega) | omega)) rfl ?_)
                | (refine wv h (r_loadA32 h rfl K.u_A8_uint32 rfl K.sz_A8_uint32 1 rfl (by first | rfl | assumption | (simp; done) | (simp; omega) | omega)) rfl ?_)
                | (refine wv h (r_loadA32 h rfl K.u_A8_uint32 rfl K.sz_A8_uint32 2 rfl (by first | rfl | assumption | (simp; done) | (simp; omega) | omega)) rfl ?_)
                | (refine wv h (r_loadA32 h rfl K.u_A8_uint32 rfl K.sz_A8_uint32 3 rfl (by first | rfl | assumption | (simp; done) | (simp; omega) | omega)) rfl ?_)
                | (refine wv h (r_loadA32 h rfl K.u_A8_uint32 rfl K.sz_A8_uint32 4 rfl (by first | rfl | assumption | (simp; done) | (simp; omega) | omega)) rfl ?_)
                | (refine wv h (r_loadA32 h rfl K.u_A8_uint32 rfl K.sz_A8_uint32 5 rfl (by first | rfl | assumption | (simp; done) | (simp; omega) | omega)) rfl ?_)
                | (refine wv h (r_loadCA h rfl K.u_A8_uint32 rfl K.sz_A8_uint32 (by assumption) (by first | rfl | assumption | (simp; done) | (simp; omega) | omega)) rfl ?_)
        clear h a w; intro a w h
        refine wv h (r_move h rfl) rfl ?_
        clear h a w; intro a w h
        generalize hH : (Blk b6 (.cells (arr32 hh.lst) t_A8_uint32) :: OwnB va rest :: Blk b2 (.cells (arr8 (List.replicate 32 0)) t_api_Key) :: F) = H at h
        refine wnil (c_then ?_)
        refine c_block ?_
        refine c_loopX h (X := Nat) (fun i => [(2, .pointer (some ⟨b2, 0, none⟩)), (7, .pointer (some ⟨b7, 0, none⟩)), (48, .agg (arr32 hh.lst)), (49, .int .i64 (i : Int))])
          (fun i => Blk b7 (.cells (arr8 (D.take (4 * i) ++ List.replicate (32 - 4 * i) 0)) t_api_Key) :: H) (fun i => i ≤ 8) (fun i => 8 - i) 0 (h.keep [2, 7, 48, 49]) (by omega) ?_
        clear h a w; intro i a w hx h
        as_aux_lemma =>
         refine c_seq (c_region ?_)
         refine wv h (r_bin h rfl rfl (B.lss_int)) rfl ?_
         clear h a w; intro a w h
         refine wnil (c_then ?_)
         refine c_seq ?_
         first
          | refine c_condD h rfl (fun ht4 => ?_) (fun ht4 => ?_)
          | refine c_condP h rfl (by first | (simp only [Bool.and_eq_true, Bool.or_eq_true, Bool.not_eq_true', decide_eq_true_eq, decide_eq_false_iff_not, ne_eq, Bool.not_eq_eq_eq_not, Bool.not_true, beq_iff_eq, bne_iff_ne]; exact Iff.rfl) | exact Iff.rfl) (fun ht4 => ?_) (fun ht4 => ?_)
         ·
          obtain ⟨x, hx0, hx1, hx2, hx3, hx4⟩ := sha_get hh i (by omega)
          rw [hD] at hx1 hx2 hx3 hx4
          have f1 := arr_fill D 0 _ _ hx1
          have f2 := arr_fill D 0 _ _ hx2
          have f3 := arr_fill D 0 _ _ hx3
          have f4 := arr_fill D 0 _ _ hx4
          rw [hDl] at f1 f2 f3 f4
          have e24 : (24 : Int).toNat = 24 := rfl
          have e16 : (16 : Int).toNat = 16 := rfl
          have e8 : (8 : Int).toNat = 8 := rfl
          refine c_skip ?_
          refine c_then ?_
          refine c_seq ?_
          refine c_block ?_
          refine c_seq (c_region ?_)
          refine wv h (r_move h rfl) rfl ?_
          clear h a w; intro a w h
          refine wv h (r_ix32 h rfl rfl K.u_A8_uint32 K.u_uint32 K.sz_uint32 rfl (by omega) (by first | omega | (simp only [List.length_cons, List.length_nil]; omega) | (simp; done) | (simp; omega)) (by first | rfl | assumption | (simp; done) | (simp; omega) | omega)) rfl ?_
          clear h a w; intro a w h
          rw [hx0] at h
          refine wv h (r_assign h rfl) rfl ?_
          clear h a w; intro a w h
          refine wv h (r_assign h rfl) rfl ?_
          clear h a w; intro a w h
          refine wnil (c_then ?_)
          refine c_region ?_
          refine wv h (r_move h rfl) rfl ?_
          clear h a w; intro a w h
          refine wv h (r_bin h rfl rfl (B.mul_i64 (by omega) (by omega))) rfl ?_
          clear h a w; intro a w h
          refine wv h (r_move h rfl) rfl ?_
          clear h a w; intro a w h
          refine wv h (r_bin h rfl rfl (B.mul_i64 (by omega) (by omega))) rfl ?_
          clear h a w; intro a w h
          refine wv h (r_bin h rfl rfl (B.add_i64 (by omega) (by omega))) rfl ?_
          clear h a w; intro a w h
          refine wv h (r_move h rfl) rfl ?_
          clear h a w; intro a w h
          refine wv h (r_bin h rfl rfl (B.mul_i64 (by omega) (by omega))) rfl ?_
          clear h a w; intro a w h
          refine wv h (r_bin h rfl rfl (B.add_i64 (by omega) (by omega))) rfl ?_
          clear h a w; intro a w h
          refine wv h (r_move h rfl) rfl ?_
          clear h a w; intro a w h
          refine wv h (r_bin h rfl rfl (B.mul_i64 (by omega) (by omega))) rfl ?_
          clear h a w; intro a w h
          refine wv h (r_bin h rfl rfl (B.add_i64 (by omega) (by omega))) rfl ?_
          clear h a w; intro a w h
          refine wv h (r_move h rfl) rfl ?_
          clear h a w; intro a w h
          refine wv h (r_bin h rfl rfl (B.shr_u32 (by decide))) rfl ?_
          clear h a w; intro a w h
          refine wv h (r_conv h rfl K.u_uint32 K.u_uint8 (C.u8_u32) ) rfl ?_
          clear h a w; intro a w h
          rw [toUInt8_ofNat32, e24] at h
          refine wv h (r_move h rfl) rfl ?_
          clear h a w; intro a w h
          refine wv h (r_bin h rfl rfl (B.shr_u32 (by decide))) rfl ?_
          clear h a w; intro a w h
          refine wv h (r_conv h rfl K.u_uint32 K.u_uint8 (C.u8_u32) ) rfl ?_
          clear h a w; intro a w h
          rw [toUInt8_ofNat32, e16] at h
          refine wv h (r_move h rfl) rfl ?_
          clear h a w; intro a w h
          refine wv h (r_bin h rfl rfl (B.shr_u32 (by decide))) rfl ?_
          clear h a w; intro a w h
          refine wv h (r_conv h rfl K.u_uint32 K.u_uint8 (C.u8_u32) ) rfl ?_
          clear h a w; intro a w h
          rw [toUInt8_ofNat32, e8] at h
          refine wv h (r_move h rfl) rfl ?_
          clear h a w; intro a w h
          refine wv h (r_conv h rfl K.u_uint32 K.u_uint8 (C.u8_u32) ) rfl ?_
          clear h a w; intro a w h
          rw [toUInt8_32] at h
          refine wv h (r_arP h rfl rfl K.u_api_Key K.sz_uint8 (by omega) (by first | omega | (simp only [List.length_cons, List.length_nil]; omega) | (simp; done) | (simp; omega))) rfl ?_
          clear h a w; intro a w h
          first
                    | (refine wl rfl (op_store8 h rfl rfl K.sz_uint8 0 rfl (by first | omega | (simp only [List.length_cons, List.length_nil]; omega) | (simp; done) | (simp; omega)) ?_))
                    | (refine wl rfl (op_store8 h rfl rfl K.sz_uint8 1 rfl (by first | omega | (simp only [List.length_cons, List.length_nil]; omega) | (simp; done) | (simp; omega)) ?_))
                    | (refine wl rfl (op_store8 h rfl rfl K.sz_uint8 2 rfl (by first | omega | (simp only [List.length_cons, List.length_nil]; omega) | (simp; done) | (simp; omega)) ?_))
                    | (refine wl rfl (op_store8 h rfl rfl K.sz_uint8 3 rfl (by first | omega | (simp only [List.length_cons, List.length_nil]; omega) | (simp; done) | (simp; omega)) ?_))
                    | (refine wl rfl (op_store8 h rfl rfl K.sz_uint8 4 rfl (by first | omega | (simp only [List.length_cons, List.length_nil]; omega) | (simp; done) | (simp; omega)) ?_))
                    | (refine wl rfl (op_store8 h rfl rfl K.sz_uint8 5 rfl (by first | omega | (simp only [List.length_cons, List.length_nil]; omega) | (simp; done) | (simp; omega)) ?_))
          clear h a w; intro a w h
          (try simp only [List.set_cons_zero, List.set_cons_succ] at h)
          rw [f1] at h
          refine wv h (r_arP h rfl rfl K.u_api_Key K.sz_uint8 (by omega) (by first | omega | (simp only [List.length_cons, List.length_nil]; omega) | (simp; done) | (simp; omega))) rfl ?_
          clear h a w; intro a w h
          first
                    | (refine wl rfl (op_store8 h rfl rfl K.sz_uint8 0 rfl (by first | omega | (simp only [List.length_cons, List.length_nil]; omega) | (simp; done) | (simp; omega)) ?_))
                    | (refine wl rfl (op_store8 h rfl rfl K.sz_uint8 1 rfl (by first | omega | (simp only [List.length_cons, List.length_nil]; omega) | (simp; done) | (simp; omega)) ?_))
                    | (refine wl rfl (op_store8 h rfl rfl K.sz_uint8 2 rfl (by first | omega | (simp only [List.length_cons, List.length_nil]; omega) | (simp; done) | (simp; omega)) ?_))
                    | (refine wl rfl (op_store8 h rfl rfl K.sz_uint8 3 rfl (by first | omega | (simp only [List.length_cons, List.length_nil]; omega) | (simp; done) | (simp; omega)) ?_))
                    | (refine wl rfl (op_store8 h rfl rfl K.sz_uint8 4 rfl (by first | omega | (simp only [List.length_cons, List.length_nil]; omega) | (simp; done) | (simp; omega)) ?_))
                    | (refine wl rfl (op_store8 h rfl rfl K.sz_uint8 5 rfl (by first | omega | (simp only [List.length_cons, List.length_nil]; omega) | (simp; done) | (simp; omega)) ?_))
          clear h a w; intro a w h
          (try simp only [List.set_cons_zero, List.set_cons_succ] at h)
          rw [f2] at h
          refine wv h (r_arP h rfl rfl K.u_api_Key K.sz_uint8 (by omega) (by first | omega | (simp only [List.length_cons, List.length_nil]; omega) | (simp; done) | (simp; omega))) rfl ?_
          clear h a w; intro a w h
          first
                    | (refine wl rfl (op_store8 h rfl rfl K.sz_uint8 0 rfl (by first | omega | (simp only [List.length_cons, List.length_nil]; omega) | (simp; done) | (simp; omega)) ?_))
                    | (refine wl rfl (op_store8 h rfl rfl K.sz_uint8 1 rfl (by first | omega | (simp only [List.length_cons, List.length_nil]; omega) | (simp; done) | (simp; omega)) ?_))
                    | (refine wl rfl (op_store8 h rfl rfl K.sz_uint8 2 rfl (by first | omega | (simp only [List.length_cons, List.length_nil]; omega) | (simp; done) | (simp; omega)) ?_))
                    | (refine wl rfl (op_store8 h rfl rfl K.sz_uint8 3 rfl (by first | omega | (simp only [List.length_cons, List.length_nil]; omega) | (simp; done) | (simp; omega)) ?_))
                    | (refine wl rfl (op_store8 h rfl rfl K.sz_uint8 4 rfl (by first | omega | (simp only [List.length_cons, List.length_nil]; omega) | (simp; done) | (simp; omega)) ?_))
                    | (refine wl rfl (op_store8 h rfl rfl K.sz_uint8 5 rfl (by first | omega | (simp only [List.length_cons, List.length_nil]; omega) | (simp; done) | (simp; omega)) ?_))
          clear h a w; intro a w h
          (try simp only [List.set_cons_zero, List.set_cons_succ] at h)
          rw [f3] at h
          refine wv h (r_arP h rfl rfl K.u_api_Key K.sz_uint8 (by omega) (by first | omega | (simp only [List.length_cons, List.length_nil]; omega) | (simp; done) | (simp; omega))) rfl ?_
          clear h a w; intro a w h
          first
                    | (refine wl rfl (op_store8 h rfl rfl K.sz_uint8 0 rfl (by first | omega | (simp only [List.length_cons, List.length_nil]; omega) | (simp; done) | (simp; omega)) ?_))
                    | (refine wl rfl (op_store8 h rfl rfl K.sz_uint8 1 rfl (by first | omega | (simp only [List.length_cons, List.length_nil]; omega) | (simp; done) | (simp; omega)) ?_))
                    | (refine wl rfl (op_store8 h rfl rfl K.sz_uint8 2 rfl (by first | omega | (simp only [List.length_cons, List.length_nil]; omega) | (simp; done) | (simp; omega)) ?_))
                    | (refine wl rfl (op_store8 h rfl rfl K.sz_uint8 3 rfl (by first | omega | (simp only [List.length_cons, List.length_nil]; omega) | (simp; done) | (simp; omega)) ?_))
                    | (refine wl rfl (op_store8 h rfl rfl K.sz_uint8 4 rfl (by first | omega | (simp only [List.length_cons, List.length_nil]; omega) | (simp; done) | (simp; omega)) ?_))
                    | (refine wl rfl (op_store8 h rfl rfl K.sz_uint8 5 rfl (by first | omega | (simp only [List.length_cons, List.length_nil]; omega) | (simp; done) | (simp; omega)) ?_))
          clear h a w; intro a w h
          (try simp only [List.set_cons_zero, List.set_cons_succ] at h)
          rw [f4, show 4 * i + 3 + 1 = 4 * (i + 1) by omega] at h
          refine wnil ?_
          refine b_normal ?_
          refine c_then ?_
          refine c_region ?_
          refine wv h (r_bin h rfl rfl (B.add_i64 (by omega) (by omega))) rfl ?_
          clear h a w; intro a w h
          refine wv h (r_move h rfl) rfl ?_
          clear h a w; intro a w h
          generalize hH : (Blk b6 (.cells (arr32 hh.lst) t_A8_uint32) :: OwnB va rest :: Blk b2 (.cells (arr8 (List.replicate 32 0)) t_api_Key) :: F) = H at h
          refine wnil ?_
          exact ⟨i + 1, h.keep [2, 7, 48, 49], (by show i + 1 ≤ 8; omega), by show 8 - (i + 1) < 8 - i; omega⟩
         ·
          obtain rfl : i = 8 := by omega
          rw [← hH, show D.take (4 * 8) ++ List.replicate (32 - 4 * 8) (0 : UInt8) = sha p by rw [hsha, List.take_of_length_le (by omega)]; simp] at h
          refine c_exit ?_
          refine e_then ?_
          refine e_then ?_
          refine e_here ?_
          refine c_then ?_
          refine c_seq (c_region ?_)
          first
                    | (refine wv h (r_loadA8 h rfl K.u_api_Key rfl K.sz_api_Key 0 rfl (by first | rfl | assumption | (simp; done) | (simp; omega) | omega)) rfl ?_)
                    | (refine wv h (r_loadA8 h rfl K.u_api_Key rfl K.sz_api_Key 1 rfl (by first | rfl | assumption | (simp; done) | (simp; omega) | omega)) rfl ?_)
                    | (refine wv h (r_loadA8 h rfl K.u_api_Key rfl K.sz_api_Key 2 rfl (by first | rfl | assumption | (simp; done) | (simp; omega) | omega)) rfl ?_)
                    | (refine wv h (r_loadA8 h rfl K.u_api_Key rfl K.sz_api_Key 3 rfl (by first | rfl | assumption | (simp; done) | (simp; omega) | omega)) rfl ?_)
                    | (refine wv h (r_loadA8 h rfl K.u_api_Key rfl K.sz_api_Key 4 rfl (by first | rfl | assumption | (simp; done) | (simp; omega) | omega)) rfl ?_)
                    | (refine wv h (r_loadA8 h rfl K.u_api_Key rfl K.sz_api_Key 5 rfl (by first | rfl | assumption | (simp; done) | (simp; omega) | omega)) rfl ?_)
                    | (refine wv h (r_loadCA h rfl K.u_api_Key rfl K.sz_api_Key (by assumption) (by first | rfl | assumption | (simp; done) | (simp; omega) | omega)) rfl ?_)
          clear h a w; intro a w h
          refine wl rfl (op_storeA8 h rfl rfl K.sz_api_Key (sha_len p) 3 rfl rfl ?_)
          clear h a w; intro a w h
          simp only [List.set_cons_zero, List.set_cons_succ] at h
          refine wnil (c_then ?_)
          refine c_ret ?_
          exact retc h rfl rfl K.u_api_Key rfl K.sz_api_Key 3 rfl (by rw [arr8_size, sha_len]) ⟨(), rfl, h.2.drop 4, trivial⟩
end Go.Proofs.K
