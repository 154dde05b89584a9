/- The contract of the document's own sum of bytes. -/
import Derived.Test.YtfaegieaicigcaaDoorStamp
set_option linter.unusedVariables false
set_option linter.unusedSimpArgs false
set_option maxRecDepth 10000
set_option maxHeartbeats 2000000
namespace Go.Proofs.K
open Go.Sl

theorem ref_Stamp (s w : World) (v : Value) (p : List UInt8) (F : List HItem) (hv : ViewsB F v p) (hp : p.length ≤ 2147483648) (hs : Sat s w F) :
    Calls P n_ref01_Stamp #[v] w (Ret s (fun _ : Unit => .agg (arr8 (sha p))) (fun _ => F) (fun _ => True)) := by
  refine enter K.fn_ref01_Stamp rfl K.nt_ref01_Stamp rfl hs ?_
  clear hs w; intro a w h
  refine c_seq (c_region ?_)
  refine wl rfl (op_alloc h K.z_A32_uint8 rfl ?_)
  clear h a w; intro b2 a w h
  rw [show (Value.agg (Array.replicate 32 (Value.int .u8 0))).cells = arr8 (List.replicate 32 0) from (arr8_zero 32).symm] at h
  refine wnil (c_then ?_)
  refine c_seq (c_region ?_)
  refine wl rfl (op_buildSlice h K.u_S_uint32 K.sz_uint32 K.z_uint32 rfl rfl rfl rfl rfl (by simp [Value.cells, bv, w32, w64, sv]) rfl ?_)
  clear h a w; intro b31 a w h
  obtain ⟨vk, hvk⟩ : ∃ vk, vk = Value.slice (some ⟨b31, 0, none⟩) 64 64 := ⟨_, rfl⟩
  replace h : St 284 s a w _ (OwnL w32 (.slice (some ⟨b31, 0, none⟩) 64 64) shaK :: Blk b2 (.cells (arr8 (List.replicate 32 0)) t_A32_uint8) :: F) := h.toOwnL shaK (NF.zero _) (by kernel_rfl) rfl rfl
  rw [← hvk] at h
  clear hvk
  refine wv h (r_assign h rfl) rfl ?_
  clear h a w; intro a w h
  refine wnil (c_then ?_)
  refine c_seq (c_region ?_)
  refine wl rfl (op_buildSlice h K.u_S_uint32 K.sz_uint32 K.z_uint32 rfl rfl rfl rfl rfl (by simp [Value.cells, bv, w32, w64, sv]) rfl ?_)
  clear h a w; intro b32 a w h
  obtain ⟨vh, hvh⟩ : ∃ vh, vh = Value.slice (some ⟨b32, 0, none⟩) 8 8 := ⟨_, rfl⟩
  replace h : St 284 s a w _ (OwnL w32 (.slice (some ⟨b32, 0, none⟩) 8 8) sha0.lst :: OwnL w32 vk shaK :: Blk b2 (.cells (arr8 (List.replicate 32 0)) t_A32_uint8) :: F) := h.toOwnL sha0.lst (NF.zero _) (by kernel_rfl) rfl rfl
  rw [← hvh] at h
  clear hvh
  generalize hGk : (OwnL w32 vk shaK :: Blk b2 (.cells (arr8 (List.replicate 32 0)) t_A32_uint8) :: F) = Gk at h
  have hvp : ViewsB Gk v p := by rw [← hGk]; exact (hv.cons _).cons _
  have hvK : Views Gk 1 vk 64 (shaK.map w32) := by rw [← hGk]; exact Views.own 0 rfl
  generalize hG : (OwnL w32 vh sha0.lst :: Gk) = G at h
  have hvG : ViewsB G v p := by rw [← hG]; exact hvp.cons _
  refine wv h (r_assign h rfl) rfl ?_
  clear h a w; intro a w h
  refine wnil (c_then ?_)
  refine c_seq (c_region ?_)
  refine wv h (r_move h rfl) rfl ?_
  clear h a w; intro a w h
  refine wl rfl (op_appendnbs h rfl rfl K.u_S_uint8 K.sz_uint8 K.z_uint8 rfl rfl (Src.bytes K.u_S_uint8 (by first | exact ViewsB.own 0 rfl | exact ViewsB.own 1 rfl | exact ViewsB.own 2 rfl | exact ViewsB.own 3 rfl | exact ViewsB.own 4 rfl | exact ViewsB.own 5 rfl | assumption | exact ViewsB.nil _ | exact ViewsB.arr 0 rfl (by first | assumption | rfl | (simp; done)) (Nat.le_refl _) (by simp [maxLen]) | exact ViewsB.arr 1 rfl (by first | assumption | rfl | (simp; done)) (Nat.le_refl _) (by simp [maxLen]) | exact ViewsB.arr 2 rfl (by first | assumption | rfl | (simp; done)) (Nat.le_refl _) (by simp [maxLen]) | exact ViewsB.arr 3 rfl (by first | assumption | rfl | (simp; done)) (Nat.le_refl _) (by simp [maxLen]) | exact ViewsB.arr 4 rfl (by first | assumption | rfl | (simp; done)) (Nat.le_refl _) (by simp [maxLen]) | exact ViewsB.cons (by assumption) _ | exact ViewsB.cons (ViewsB.cons (by assumption) _) _ | exact ViewsB.cons (ViewsB.cons (ViewsB.cons (by assumption) _) _) _ | exact ViewsB.cons (ViewsB.cons (ViewsB.cons (ViewsB.cons (by assumption) _) _) _) _) h.2) (by first | omega | (simp only [List.length_cons, List.length_nil]; omega) | (simp; done) | (simp; omega)) rfl ?_)
  clear h a w; intro v34 a w h
  refine wl rfl (op_buildSlice h K.u_S_uint8 K.sz_uint8 K.z_uint8 rfl rfl rfl rfl rfl (by simp [Value.cells, bv, w32, w64, sv]) rfl ?_)
  clear h a w; intro b35 a w h
  first
    | (refine wl rfl (op_appendb (u := 128) h rfl rfl K.u_S_uint8 K.sz_uint8 K.z_uint8 rfl rfl 0 rfl (by first | omega | (simp only [List.length_cons, List.length_nil]; omega) | (simp; done) | (simp; omega)) rfl ?_))
    | (refine wl rfl (op_appendb (u := 128) h rfl rfl K.u_S_uint8 K.sz_uint8 K.z_uint8 rfl rfl 1 rfl (by first | omega | (simp only [List.length_cons, List.length_nil]; omega) | (simp; done) | (simp; omega)) rfl ?_))
    | (refine wl rfl (op_appendb (u := 128) h rfl rfl K.u_S_uint8 K.sz_uint8 K.z_uint8 rfl rfl 2 rfl (by first | omega | (simp only [List.length_cons, List.length_nil]; omega) | (simp; done) | (simp; omega)) rfl ?_))
    | (refine wl rfl (op_appendb (u := 128) h rfl rfl K.u_S_uint8 K.sz_uint8 K.z_uint8 rfl rfl 3 rfl (by first | omega | (simp only [List.length_cons, List.length_nil]; omega) | (simp; done) | (simp; omega)) rfl ?_))
    | (refine wl rfl (op_appendb (u := 128) h rfl rfl K.u_S_uint8 K.sz_uint8 K.z_uint8 rfl rfl 4 rfl (by first | omega | (simp only [List.length_cons, List.length_nil]; omega) | (simp; done) | (simp; omega)) rfl ?_))
    | (refine wl rfl (op_appendb (u := 128) h rfl rfl K.u_S_uint8 K.sz_uint8 K.z_uint8 rfl rfl 5 rfl (by first | omega | (simp only [List.length_cons, List.length_nil]; omega) | (simp; done) | (simp; omega)) rfl ?_))
  clear h a w; intro v36 a w h
  (try simp only [List.set_cons_zero, List.set_cons_succ] at h)
  refine wv h (r_assign h rfl) rfl ?_
  clear h a w; intro a w h
  refine wnil (c_then ?_)
  refine c_seq ?_
  refine c_block ?_
  refine c_loopX h (X := Nat × Value) (fun x => [(0, v), (2, .pointer (some ⟨b2, 0, none⟩)), (3, vk), (4, vh), (5, x.2)])
    (fun x => OwnB x.2 (p ++ [128] ++ List.replicate x.1 0) :: G) (fun x => x.1 ≤ shaZeros p.length) (fun x => shaZeros p.length - x.1) (0, v36) ?_ (Nat.zero_le _) ?_
  · have e : p ++ [128] = p ++ [128] ++ List.replicate 0 0 := by simp
    rw [e] at h
    exact h.keep [0, 2, 3, 4, 5]
  clear h a w; intro x a w hx h
  obtain ⟨j, va⟩ := x
  replace hx : j ≤ shaZeros p.length := hx
  have hz : shaZeros p.length ≤ 63 := by unfold shaZeros; omega
  dsimp only at h
  as_aux_lemma =>
    refine c_seq ?_
    refine c_seq (c_region ?_)
    refine wv h (r_move h rfl) rfl ?_
    clear h a w; intro a w h
    refine wv h (r_lenB h rfl K.u_S_uint8 (by first | exact ViewsB.own 0 rfl | exact ViewsB.own 1 rfl | exact ViewsB.own 2 rfl | exact ViewsB.own 3 rfl | exact ViewsB.own 4 rfl | exact ViewsB.own 5 rfl | assumption | exact ViewsB.nil _ | exact ViewsB.arr 0 rfl (by first | assumption | rfl | (simp; done)) (Nat.le_refl _) (by simp [maxLen]) | exact ViewsB.arr 1 rfl (by first | assumption | rfl | (simp; done)) (Nat.le_refl _) (by simp [maxLen]) | exact ViewsB.arr 2 rfl (by first | assumption | rfl | (simp; done)) (Nat.le_refl _) (by simp [maxLen]) | exact ViewsB.arr 3 rfl (by first | assumption | rfl | (simp; done)) (Nat.le_refl _) (by simp [maxLen]) | exact ViewsB.arr 4 rfl (by first | assumption | rfl | (simp; done)) (Nat.le_refl _) (by simp [maxLen]) | exact ViewsB.cons (by assumption) _ | exact ViewsB.cons (ViewsB.cons (by assumption) _) _ | exact ViewsB.cons (ViewsB.cons (ViewsB.cons (by assumption) _) _) _ | exact ViewsB.cons (ViewsB.cons (ViewsB.cons (ViewsB.cons (by assumption) _) _) _) _)) rfl ?_
    clear h a w; intro a w h
    refine wv h (r_bin h rfl rfl (B.rem_i64 (by omega) (by omega))) rfl ?_
    clear h a w; intro a w h
    refine wv h (r_bin h rfl rfl (B.neq_int)) rfl ?_
    clear h a w; intro a w h
    refine wnil (c_then ?_)
    first
      | refine c_condD h rfl (fun ht1 => ?_) (fun ht1 => ?_)
      | refine c_condP h rfl (by first | (simp only [Bool.and_eq_true, Bool.or_eq_true, Bool.not_eq_true', decide_eq_true_eq, decide_eq_false_iff_not, ne_eq, Bool.not_eq_eq_eq_not, Bool.not_true, beq_iff_eq, bne_iff_ne]; exact Iff.rfl) | exact Iff.rfl) (fun ht1 => ?_) (fun ht1 => ?_)
    ·
      simp at ht1
      have hj : j < shaZeros p.length := by unfold shaZeros at hx ⊢; omega
      refine c_skip ?_
      refine c_then ?_
      refine c_block ?_
      refine c_region ?_
      refine wv h (r_move h rfl) rfl ?_
      clear h a w; intro a w h
      refine wl rfl (op_buildSlice h K.u_S_uint8 K.sz_uint8 K.z_uint8 rfl rfl rfl rfl rfl (by simp [Value.cells, bv, w32, w64, sv]) rfl ?_)
      clear h a w; intro b42 a w h
      first
        | (refine wl rfl (op_appendb (u := 0) h rfl rfl K.u_S_uint8 K.sz_uint8 K.z_uint8 rfl rfl 0 rfl (by first | omega | (simp only [List.length_cons, List.length_nil]; omega) | (simp; done) | (simp; omega)) rfl ?_))
        | (refine wl rfl (op_appendb (u := 0) h rfl rfl K.u_S_uint8 K.sz_uint8 K.z_uint8 rfl rfl 1 rfl (by first | omega | (simp only [List.length_cons, List.length_nil]; omega) | (simp; done) | (simp; omega)) rfl ?_))
        | (refine wl rfl (op_appendb (u := 0) h rfl rfl K.u_S_uint8 K.sz_uint8 K.z_uint8 rfl rfl 2 rfl (by first | omega | (simp only [List.length_cons, List.length_nil]; omega) | (simp; done) | (simp; omega)) rfl ?_))
        | (refine wl rfl (op_appendb (u := 0) h rfl rfl K.u_S_uint8 K.sz_uint8 K.z_uint8 rfl rfl 3 rfl (by first | omega | (simp only [List.length_cons, List.length_nil]; omega) | (simp; done) | (simp; omega)) rfl ?_))
        | (refine wl rfl (op_appendb (u := 0) h rfl rfl K.u_S_uint8 K.sz_uint8 K.z_uint8 rfl rfl 4 rfl (by first | omega | (simp only [List.length_cons, List.length_nil]; omega) | (simp; done) | (simp; omega)) rfl ?_))
        | (refine wl rfl (op_appendb (u := 0) h rfl rfl K.u_S_uint8 K.sz_uint8 K.z_uint8 rfl rfl 5 rfl (by first | omega | (simp only [List.length_cons, List.length_nil]; omega) | (simp; done) | (simp; omega)) rfl ?_))
      clear h a w; intro v43 a w h
      (try simp only [List.set_cons_zero, List.set_cons_succ] at h)
      refine wv h (r_assign h rfl) rfl ?_
      clear h a w; intro a w h
      rw [List.append_assoc _ _ [0], show List.replicate j (0 : UInt8) ++ [0] = List.replicate (j + 1) 0 from List.replicate_succ'.symm] at h
      refine wnil ?_
      refine b_normal ?_
      exact ⟨(j + 1, v43), h.keep [0, 2, 3, 4, 5], hj, by show shaZeros p.length - (j + 1) < shaZeros p.length - j; omega⟩
    ·
      simp at ht1
      obtain rfl : j = shaZeros p.length := by unfold shaZeros at hx ⊢; omega
      refine c_exit ?_
      refine e_then ?_
      refine e_then ?_
      refine e_here ?_
      refine c_then ?_
      refine c_seq (c_region ?_)
      refine wv h (r_move h rfl) rfl ?_
      clear h a w; intro a w h
      refine wv h (r_lenB h rfl K.u_S_uint8 (by first | exact ViewsB.own 0 rfl | exact ViewsB.own 1 rfl | exact ViewsB.own 2 rfl | exact ViewsB.own 3 rfl | exact ViewsB.own 4 rfl | exact ViewsB.own 5 rfl | assumption | exact ViewsB.nil _ | exact ViewsB.arr 0 rfl (by first | assumption | rfl | (simp; done)) (Nat.le_refl _) (by simp [maxLen]) | exact ViewsB.arr 1 rfl (by first | assumption | rfl | (simp; done)) (Nat.le_refl _) (by simp [maxLen]) | exact ViewsB.arr 2 rfl (by first | assumption | rfl | (simp; done)) (Nat.le_refl _) (by simp [maxLen]) | exact ViewsB.arr 3 rfl (by first | assumption | rfl | (simp; done)) (Nat.le_refl _) (by simp [maxLen]) | exact ViewsB.arr 4 rfl (by first | assumption | rfl | (simp; done)) (Nat.le_refl _) (by simp [maxLen]) | exact ViewsB.cons (by assumption) _ | exact ViewsB.cons (ViewsB.cons (by assumption) _) _ | exact ViewsB.cons (ViewsB.cons (ViewsB.cons (by assumption) _) _) _ | exact ViewsB.cons (ViewsB.cons (ViewsB.cons (ViewsB.cons (by assumption) _) _) _) _)) rfl ?_
      clear h a w; intro a w h
      refine wv h (r_conv h rfl K.u_int K.u_uint64 (C.u64_i64) ) rfl ?_
      clear h a w; intro a w h
      refine wv h (r_bin h rfl rfl (B.mul_u64 (y := 8))) rfl ?_
      clear h a w; intro a w h
      refine wv h (r_assign h rfl) rfl ?_
      clear h a w; intro a w h
      have hn : (UInt64.ofInt (p.length : Int) * 8).toNat = p.length * 8 := by
        have e : (UInt64.ofInt (p.length : Int)).toNat = p.length := by simp [UInt64.ofInt, UInt64.toNat_ofNat']; omega
        rw [UInt64.toNat_mul, e]
        show p.length * 8 % 2 ^ 64 = _
        omega
      generalize UInt64.ofInt (p.length : Int) * 8 = n64 at h hn
      refine wnil (c_then ?_)
      refine c_seq ?_
      refine c_seq (c_region ?_)
      refine wv h (r_assign h rfl) rfl ?_
      clear h a w; intro a w h
      refine wnil (c_then ?_)
      refine c_block ?_
      refine c_loopX h (X := Nat × Value) (fun x => [(2, .pointer (some ⟨b2, 0, none⟩)), (3, vk), (4, vh), (5, x.2), (6, w64 n64), (7, .int .i64 (x.1 : Int))])
        (fun x => OwnB x.2 (p ++ [128] ++ List.replicate (shaZeros p.length) 0 ++ shaTail p.length x.1) :: G) (fun x => x.1 ≤ 8) (fun x => 8 - x.1) (0, va) ?_ (Nat.zero_le _) ?_
      · have e : p ++ [128] ++ List.replicate (shaZeros p.length) 0 = p ++ [128] ++ List.replicate (shaZeros p.length) 0 ++ shaTail p.length 0 := by simp [shaTail]
        rw [e] at h
        exact h.keep [2, 3, 4, 5, 6, 7]
      clear h a w; intro x a w hx h
      obtain ⟨j, va⟩ := x
      replace hx : j ≤ 8 := hx
      have htl : (shaTail p.length j).length = j := by simp [shaTail]
      dsimp only at h
      as_aux_lemma =>
        refine c_seq ?_
        refine c_seq (c_region ?_)
        refine wv h (r_move h rfl) rfl ?_
        clear h a w; intro a w h
        refine wv h (r_bin h rfl rfl (B.lss_int)) rfl ?_
        clear h a w; intro a w h
        refine wnil (c_then ?_)
        first
          | refine c_condD h rfl (fun ht2 => ?_) (fun ht2 => ?_)
          | refine c_condP h rfl (by first | (simp only [Bool.and_eq_true, Bool.or_eq_true, Bool.not_eq_true', decide_eq_true_eq, decide_eq_false_iff_not, ne_eq, Bool.not_eq_eq_eq_not, Bool.not_true, beq_iff_eq, bne_iff_ne]; exact Iff.rfl) | exact Iff.rfl) (fun ht2 => ?_) (fun ht2 => ?_)
        ·
          refine c_skip ?_
          refine c_then ?_
          refine c_seq ?_
          refine c_block ?_
          refine c_region ?_
          refine wv h (r_move h rfl) rfl ?_
          clear h a w; intro a w h
          refine wv h (r_move h rfl) rfl ?_
          clear h a w; intro a w h
          refine wv h (r_move h rfl) rfl ?_
          clear h a w; intro a w h
          refine wv h (r_bin h rfl rfl (B.mul_i64 (by omega) (by omega))) rfl ?_
          clear h a w; intro a w h
          refine wv h (r_bin h rfl rfl (B.sub_i64 (by omega) (by omega))) rfl ?_
          clear h a w; intro a w h
          refine wv h (r_bin h rfl rfl (B.shr_u64 (by omega))) rfl ?_
          clear h a w; intro a w h
          refine wv h (r_conv h rfl K.u_uint64 K.u_uint8 (C.u8_u64) ) rfl ?_
          clear h a w; intro a w h
          rw [toUInt8_ofNat64, hn, show (56 - 8 * (j : Int)).toNat = 56 - 8 * j by omega] at h
          refine wl rfl (op_buildSlice h K.u_S_uint8 K.sz_uint8 K.z_uint8 rfl rfl rfl rfl rfl (by simp [Value.cells, bv, w32, w64, sv]) rfl ?_)
          clear h a w; intro b59 a w h
          first
            | (refine wl rfl (op_appendb h rfl rfl K.u_S_uint8 K.sz_uint8 K.z_uint8 rfl rfl 0 rfl (by first | omega | (simp only [List.length_cons, List.length_nil]; omega) | (simp; done) | (simp; omega)) rfl ?_))
            | (refine wl rfl (op_appendb h rfl rfl K.u_S_uint8 K.sz_uint8 K.z_uint8 rfl rfl 1 rfl (by first | omega | (simp only [List.length_cons, List.length_nil]; omega) | (simp; done) | (simp; omega)) rfl ?_))
            | (refine wl rfl (op_appendb h rfl rfl K.u_S_uint8 K.sz_uint8 K.z_uint8 rfl rfl 2 rfl (by first | omega | (simp only [List.length_cons, List.length_nil]; omega) | (simp; done) | (simp; omega)) rfl ?_))
            | (refine wl rfl (op_appendb h rfl rfl K.u_S_uint8 K.sz_uint8 K.z_uint8 rfl rfl 3 rfl (by first | omega | (simp only [List.length_cons, List.length_nil]; omega) | (simp; done) | (simp; omega)) rfl ?_))
            | (refine wl rfl (op_appendb h rfl rfl K.u_S_uint8 K.sz_uint8 K.z_uint8 rfl rfl 4 rfl (by first | omega | (simp only [List.length_cons, List.length_nil]; omega) | (simp; done) | (simp; omega)) rfl ?_))
            | (refine wl rfl (op_appendb h rfl rfl K.u_S_uint8 K.sz_uint8 K.z_uint8 rfl rfl 5 rfl (by first | omega | (simp only [List.length_cons, List.length_nil]; omega) | (simp; done) | (simp; omega)) rfl ?_))
          clear h a w; intro v60 a w h
          (try simp only [List.set_cons_zero, List.set_cons_succ] at h)
          refine wv h (r_assign h rfl) rfl ?_
          clear h a w; intro a w h
          rw [List.append_assoc _ (shaTail p.length j), shaTail_succ] at h
          refine wnil ?_
          refine b_normal ?_
          refine c_then ?_
          refine c_region ?_
          refine wv h (r_move h rfl) rfl ?_
          clear h a w; intro a w h
          refine wv h (r_bin h rfl rfl (B.add_i64 (by omega) (by omega))) rfl ?_
          clear h a w; intro a w h
          refine wv h (r_assign h rfl) rfl ?_
          clear h a w; intro a w h
          refine wnil ?_
          exact ⟨(j + 1, v60), h.keep [2, 3, 4, 5, 6, 7], (by show j + 1 ≤ 8; omega), by show 8 - (j + 1) < 8 - j; omega⟩
        ·
          obtain rfl : j = 8 := by omega
          rw [← shaPad_eq] at h
          have hpl := shaPad_len p
          have hpl2 : (shaPad p).length ≤ 2147483648 + 200 := by simp [shaPad]; omega
          have hsha : sha p = (shaAll ((shaPad p).length / 64) sha0 (shaPad p)).lst.flatMap shaBytes := rfl
          generalize shaPad p = pad at h hpl hpl2 hsha
          generalize hR : shaAll (pad.length / 64) sha0 pad = R at hsha
          rw [← hG] at h
          replace h : St 284 s a w _ (OwnL w32 vh sha0.lst :: OwnB va pad :: Gk) := h.front 1 rfl
          refine c_exit ?_
          refine e_then ?_
          refine e_then ?_
          refine e_here ?_
          refine c_then ?_
          refine c_seq ?_
          refine c_seq (c_region ?_)
          refine wv h (r_assign h rfl) rfl ?_
          clear h a w; intro a w h
          refine wnil (c_then ?_)
          refine c_block ?_
          refine c_loopX h (X := Nat × Sha8) (fun x => [(2, .pointer (some ⟨b2, 0, none⟩)), (3, vk), (4, vh), (5, va), (8, .int .i64 ((64 * x.1 : Nat) : Int))])
            (fun x => OwnL w32 vh x.2.lst :: OwnB va pad :: Gk) (fun x => 64 * x.1 ≤ pad.length ∧ shaAll ((pad.drop (64 * x.1)).length / 64) x.2 (pad.drop (64 * x.1)) = R) (fun x => pad.length - 64 * x.1) (0, sha0) (h.keep [2, 3, 4, 5, 8]) ⟨by simp, by simpa using hR⟩ ?_
          clear h a w; intro x a w hx h
          obtain ⟨k, hh⟩ := x
          obtain ⟨hx1, hx2⟩ := hx
          replace hx1 : 64 * k ≤ pad.length := hx1
          dsimp only at h hx2
          as_aux_lemma =>
            refine c_seq ?_
            refine c_seq (c_region ?_)
            refine wv h (r_move h rfl) rfl ?_
            clear h a w; intro a w h
            refine wv h (r_move h rfl) rfl ?_
            clear h a w; intro a w h
            refine wv h (r_lenB h rfl K.u_S_uint8 (by first | exact ViewsB.own 0 rfl | exact ViewsB.own 1 rfl | exact ViewsB.own 2 rfl | exact ViewsB.own 3 rfl | exact ViewsB.own 4 rfl | exact ViewsB.own 5 rfl | assumption | exact ViewsB.nil _ | exact ViewsB.arr 0 rfl (by first | assumption | rfl | (simp; done)) (Nat.le_refl _) (by simp [maxLen]) | exact ViewsB.arr 1 rfl (by first | assumption | rfl | (simp; done)) (Nat.le_refl _) (by simp [maxLen]) | exact ViewsB.arr 2 rfl (by first | assumption | rfl | (simp; done)) (Nat.le_refl _) (by simp [maxLen]) | exact ViewsB.arr 3 rfl (by first | assumption | rfl | (simp; done)) (Nat.le_refl _) (by simp [maxLen]) | exact ViewsB.arr 4 rfl (by first | assumption | rfl | (simp; done)) (Nat.le_refl _) (by simp [maxLen]) | exact ViewsB.cons (by assumption) _ | exact ViewsB.cons (ViewsB.cons (by assumption) _) _ | exact ViewsB.cons (ViewsB.cons (ViewsB.cons (by assumption) _) _) _ | exact ViewsB.cons (ViewsB.cons (ViewsB.cons (ViewsB.cons (by assumption) _) _) _) _)) rfl ?_
            clear h a w; intro a w h
            refine wv h (r_bin h rfl rfl (B.lss_int)) rfl ?_
            clear h a w; intro a w h
            refine wnil (c_then ?_)
            first
              | refine c_condD h rfl (fun ht3 => ?_) (fun ht3 => ?_)
              | refine c_condP h rfl (by first | (simp only [Bool.and_eq_true, Bool.or_eq_true, Bool.not_eq_true', decide_eq_true_eq, decide_eq_false_iff_not, ne_eq, Bool.not_eq_eq_eq_not, Bool.not_true, beq_iff_eq, bne_iff_ne]; exact Iff.rfl) | exact Iff.rfl) (fun ht3 => ?_) (fun ht3 => ?_)
            ·
              have h64 : 64 * k + 64 ≤ pad.length := by omega
              have hst := shaAll_step (pad.drop (64 * k)) hh (by rw [List.length_drop]; omega) (by rw [List.length_drop]; omega)
              rw [List.drop_drop, show 64 * k + 64 = 64 * (k + 1) by omega] at hst
              have hblk : shaBlock hh ((pad.drop (64 * k)).take 64) = shaAdd hh (shaRounds hh (shaW ((pad.drop (64 * k)).take 64)) 64) := rfl
              have hgb : ∀ j, j < 64 → ((pad.drop (64 * k)).take 64).getD j 0 = pad.getD (64 * k + j) 0 := fun j hj => drop_take_getD pad 0 _ _ _ hj
              generalize (pad.drop (64 * k)).take 64 = blk at hst hblk hgb
              have hWl := shaW_len blk
              have hWlow := shaW_low blk
              have hWhigh := shaW_high blk
              generalize shaW blk = W at hWl hWlow hWhigh hblk
              have hll : hh.lst.length = 8 := rfl
              refine c_skip ?_
              refine c_then ?_
              refine c_seq ?_
              refine c_block ?_
              refine c_seq (c_region ?_)
              refine wv h (r_assign h rfl) rfl ?_
              clear h a w; intro a w h
              replace h := h.addNilL (enc := w32)
              generalize hM : (OwnL w32 vh hh.lst :: OwnB va pad :: Gk) = M at h
              have hvM : ViewsB M va pad := by rw [← hM]; exact ViewsB.own 1 rfl
              have hvMk : Views M 1 vk 64 (shaK.map w32) := by rw [← hM]; exact (hvK.cons _).cons _
              have hvMh : Views M 1 vh 8 (hh.lst.map w32) := by rw [← hM]; exact Views.own 0 rfl
              refine wnil (c_then ?_)
              refine c_seq ?_
              refine c_seq (c_region ?_)
              refine wv h (r_assign h rfl) rfl ?_
              clear h a w; intro a w h
              refine wnil (c_then ?_)
              refine c_block ?_
              refine c_loopX h (X := Nat × Value) (fun x => [(2, .pointer (some ⟨b2, 0, none⟩)), (3, vk), (4, vh), (5, va), (8, .int .i64 ((64 * k : Nat) : Int)), (9, x.2), (10, .int .i64 (x.1 : Int))])
                (fun x => OwnL w32 x.2 (W.take x.1) :: M) (fun x => x.1 ≤ 16) (fun x => 16 - x.1) (0, .slice none 0 0) (h.keep [2, 3, 4, 5, 8, 9, 10]) (Nat.zero_le _) ?_
              clear h a w; intro x a w hx h
              obtain ⟨i, v9⟩ := x
              replace hx : i ≤ 16 := hx
              dsimp only at h
              as_aux_lemma =>
                refine c_seq ?_
                refine c_seq (c_region ?_)
                refine wv h (r_move h rfl) rfl ?_
                clear h a w; intro a w h
                refine wv h (r_bin h rfl rfl (B.lss_int)) rfl ?_
                clear h a w; intro a w h
                refine wnil (c_then ?_)
                first
                  | refine c_condD h rfl (fun ht4 => ?_) (fun ht4 => ?_)
                  | refine c_condP h rfl (by first | (simp only [Bool.and_eq_true, Bool.or_eq_true, Bool.not_eq_true', decide_eq_true_eq, decide_eq_false_iff_not, ne_eq, Bool.not_eq_eq_eq_not, Bool.not_true, beq_iff_eq, bne_iff_ne]; exact Iff.rfl) | exact Iff.rfl) (fun ht4 => ?_) (fun ht4 => ?_)
                ·
                  refine c_skip ?_
                  refine c_then ?_
                  refine c_seq ?_
                  refine c_block ?_
                  refine c_seq (c_region ?_)
                  refine wv h (r_assign h rfl) rfl ?_
                  clear h a w; intro a w h
                  refine wnil (c_then ?_)
                  refine c_seq ?_
                  refine c_seq (c_region ?_)
                  refine wv h (r_assign h rfl) rfl ?_
                  clear h a w; intro a w h
                  refine wnil (c_then ?_)
                  refine c_block ?_
                  refine c_loopX h (X := Nat) (fun j => [(2, .pointer (some ⟨b2, 0, none⟩)), (3, vk), (4, vh), (5, va), (8, .int .i64 ((64 * k : Nat) : Int)), (9, v9), (10, .int .i64 (i : Int)), (11, w32 (shaAcc blk i j)), (12, .int .i64 (j : Int))])
                    (fun j => OwnL w32 v9 (W.take i) :: M) (fun j => j ≤ 4) (fun j => 4 - j) 0 (h.keep [2, 3, 4, 5, 8, 9, 10, 11, 12]) (Nat.zero_le _) ?_
                  clear h a w; intro j a w hxj h
                  as_aux_lemma =>
                    refine c_seq ?_
                    refine c_seq (c_region ?_)
                    refine wv h (r_move h rfl) rfl ?_
                    clear h a w; intro a w h
                    refine wv h (r_bin h rfl rfl (B.lss_int)) rfl ?_
                    clear h a w; intro a w h
                    refine wnil (c_then ?_)
                    first
                      | refine c_condD h rfl (fun ht5 => ?_) (fun ht5 => ?_)
                      | refine c_condP h rfl (by first | (simp only [Bool.and_eq_true, Bool.or_eq_true, Bool.not_eq_true', decide_eq_true_eq, decide_eq_false_iff_not, ne_eq, Bool.not_eq_eq_eq_not, Bool.not_true, beq_iff_eq, bne_iff_ne]; exact Iff.rfl) | exact Iff.rfl) (fun ht5 => ?_) (fun ht5 => ?_)
                    ·
                      refine c_skip ?_
                      refine c_then ?_
                      refine c_seq ?_
                      refine c_block ?_
                      refine c_region ?_
                      refine wv h (r_move h rfl) rfl ?_
                      clear h a w; intro a w h
                      refine wv h (r_bin h rfl rfl (B.mul_u32 (y := 256))) rfl ?_
                      clear h a w; intro a w h
                      refine wv h (r_move h rfl) rfl ?_
                      clear h a w; intro a w h
                      refine wv h (r_move h rfl) rfl ?_
                      clear h a w; intro a w h
                      refine wv h (r_move h rfl) rfl ?_
                      clear h a w; intro a w h
                      refine wv h (r_bin h rfl rfl (B.mul_i64 (by omega) (by omega))) rfl ?_
                      clear h a w; intro a w h
                      refine wv h (r_bin h rfl rfl (B.add_i64 (by omega) (by omega))) rfl ?_
                      clear h a w; intro a w h
                      refine wv h (r_move h rfl) rfl ?_
                      clear h a w; intro a w h
                      refine wv h (r_bin h rfl rfl (B.add_i64 (by omega) (by omega))) rfl ?_
                      clear h a w; intro a w h
                      refine wv h (r_elP h rfl rfl K.u_S_uint8 K.sz_uint8 (by first | exact ViewsB.own 0 rfl | exact ViewsB.own 1 rfl | exact ViewsB.own 2 rfl | exact ViewsB.own 3 rfl | exact ViewsB.own 4 rfl | exact ViewsB.own 5 rfl | assumption | exact ViewsB.nil _ | exact ViewsB.arr 0 rfl (by first | assumption | rfl | (simp; done)) (Nat.le_refl _) (by simp [maxLen]) | exact ViewsB.arr 1 rfl (by first | assumption | rfl | (simp; done)) (Nat.le_refl _) (by simp [maxLen]) | exact ViewsB.arr 2 rfl (by first | assumption | rfl | (simp; done)) (Nat.le_refl _) (by simp [maxLen]) | exact ViewsB.arr 3 rfl (by first | assumption | rfl | (simp; done)) (Nat.le_refl _) (by simp [maxLen]) | exact ViewsB.arr 4 rfl (by first | assumption | rfl | (simp; done)) (Nat.le_refl _) (by simp [maxLen]) | exact ViewsB.cons (by assumption) _ | exact ViewsB.cons (ViewsB.cons (by assumption) _) _ | exact ViewsB.cons (ViewsB.cons (ViewsB.cons (by assumption) _) _) _ | exact ViewsB.cons (ViewsB.cons (ViewsB.cons (ViewsB.cons (by assumption) _) _) _) _) (by first | omega | (simp; done)) (by first | omega | (simp only [List.length_cons, List.length_nil]; omega) | (simp; done) | (simp; omega))) rfl ?_
                      clear h a w; intro a w h
                      refine wv h (r_elb h rfl K.u_uint8 rfl (by first | exact ViewsB.own 0 rfl | exact ViewsB.own 1 rfl | exact ViewsB.own 2 rfl | exact ViewsB.own 3 rfl | exact ViewsB.own 4 rfl | exact ViewsB.own 5 rfl | assumption | exact ViewsB.nil _ | exact ViewsB.arr 0 rfl (by first | assumption | rfl | (simp; done)) (Nat.le_refl _) (by simp [maxLen]) | exact ViewsB.arr 1 rfl (by first | assumption | rfl | (simp; done)) (Nat.le_refl _) (by simp [maxLen]) | exact ViewsB.arr 2 rfl (by first | assumption | rfl | (simp; done)) (Nat.le_refl _) (by simp [maxLen]) | exact ViewsB.arr 3 rfl (by first | assumption | rfl | (simp; done)) (Nat.le_refl _) (by simp [maxLen]) | exact ViewsB.arr 4 rfl (by first | assumption | rfl | (simp; done)) (Nat.le_refl _) (by simp [maxLen]) | exact ViewsB.cons (by assumption) _ | exact ViewsB.cons (ViewsB.cons (by assumption) _) _ | exact ViewsB.cons (ViewsB.cons (ViewsB.cons (by assumption) _) _) _ | exact ViewsB.cons (ViewsB.cons (ViewsB.cons (ViewsB.cons (by assumption) _) _) _) _) (by first | omega | (simp only [List.length_cons, List.length_nil]; omega) | (simp; done) | (simp; omega))) rfl ?_
                      clear h a w; intro a w h
                      rw [Nat.add_assoc (64 * k), ← hgb (4 * i + j) (by omega)] at h
                      refine wv h (r_conv h rfl K.u_uint8 K.u_uint32 (C.u32_u8) ) rfl ?_
                      clear h a w; intro a w h
                      refine wv h (r_bin h rfl rfl (B.add_u32)) rfl ?_
                      clear h a w; intro a w h
                      refine wv h (r_assign h rfl) rfl ?_
                      clear h a w; intro a w h
                      refine wnil ?_
                      refine b_normal ?_
                      refine c_then ?_
                      refine c_region ?_
                      refine wv h (r_move h rfl) rfl ?_
                      clear h a w; intro a w h
                      refine wv h (r_bin h rfl rfl (B.add_i64 (by omega) (by omega))) rfl ?_
                      clear h a w; intro a w h
                      refine wv h (r_assign h rfl) rfl ?_
                      clear h a w; intro a w h
                      refine wnil ?_
                      exact ⟨j + 1, h.keep [2, 3, 4, 5, 8, 9, 10, 11, 12], (by show j + 1 ≤ 4; omega), by show 4 - (j + 1) < 4 - j; omega⟩
                    ·
                      obtain rfl : j = 4 := by omega
                      have hWi := hWlow i (by omega)
                      rw [shaAcc_four] at h
                      have htk : W.take i ++ [shaWord blk i] = W.take (i + 1) := by rw [List.take_add_one, hWi]; rfl
                      have hl9 : (W.take i).length = i := by rw [List.length_take]; omega
                      refine c_exit ?_
                      refine e_then ?_
                      refine e_then ?_
                      refine e_here ?_
                      refine c_then ?_
                      refine c_region ?_
                      refine wv h (r_move h rfl) rfl ?_
                      clear h a w; intro a w h
                      refine wv h (r_move h rfl) rfl ?_
                      clear h a w; intro a w h
                      refine wl rfl (op_buildSlice h K.u_S_uint32 K.sz_uint32 K.z_uint32 rfl rfl rfl rfl rfl (by simp [Value.cells, bv, w32, w64, sv]) rfl ?_)
                      clear h a w; intro b90 a w h
                      first
                        | (refine wl rfl (op_appendL1 (enc := w32) h rfl rfl rfl K.u_S_uint32 K.sz_uint32 K.z_uint32 rfl rfl 0 rfl (by first | omega | (simp only [List.length_cons, List.length_nil]; omega) | (simp; done) | (simp; omega)) rfl ?_))
                        | (refine wl rfl (op_appendL1 (enc := w32) h rfl rfl rfl K.u_S_uint32 K.sz_uint32 K.z_uint32 rfl rfl 1 rfl (by first | omega | (simp only [List.length_cons, List.length_nil]; omega) | (simp; done) | (simp; omega)) rfl ?_))
                        | (refine wl rfl (op_appendL1 (enc := w32) h rfl rfl rfl K.u_S_uint32 K.sz_uint32 K.z_uint32 rfl rfl 2 rfl (by first | omega | (simp only [List.length_cons, List.length_nil]; omega) | (simp; done) | (simp; omega)) rfl ?_))
                        | (refine wl rfl (op_appendL1 (enc := w32) h rfl rfl rfl K.u_S_uint32 K.sz_uint32 K.z_uint32 rfl rfl 3 rfl (by first | omega | (simp only [List.length_cons, List.length_nil]; omega) | (simp; done) | (simp; omega)) rfl ?_))
                        | (refine wl rfl (op_appendL1 (enc := w32) h rfl rfl rfl K.u_S_uint32 K.sz_uint32 K.z_uint32 rfl rfl 4 rfl (by first | omega | (simp only [List.length_cons, List.length_nil]; omega) | (simp; done) | (simp; omega)) rfl ?_))
                        | (refine wl rfl (op_appendL1 (enc := w32) h rfl rfl rfl K.u_S_uint32 K.sz_uint32 K.z_uint32 rfl rfl 5 rfl (by first | omega | (simp only [List.length_cons, List.length_nil]; omega) | (simp; done) | (simp; omega)) rfl ?_))
                      clear h a w; intro v91 a w h
                      (try simp only [List.set_cons_zero, List.set_cons_succ] at h)
                      rw [htk] at h
                      refine wv h (r_assign h rfl) rfl ?_
                      clear h a w; intro a w h
                      refine wnil ?_
                      refine b_normal ?_
                      refine c_then ?_
                      refine c_region ?_
                      refine wv h (r_move h rfl) rfl ?_
                      clear h a w; intro a w h
                      refine wv h (r_bin h rfl rfl (B.add_i64 (by omega) (by omega))) rfl ?_
                      clear h a w; intro a w h
                      refine wv h (r_assign h rfl) rfl ?_
                      clear h a w; intro a w h
                      refine wnil ?_
                      exact ⟨(i + 1, v91), h.keep [2, 3, 4, 5, 8, 9, 10], (by show i + 1 ≤ 16; omega), by show 16 - (i + 1) < 16 - i; omega⟩
                ·
                  obtain rfl : i = 16 := by omega
                  refine c_exit ?_
                  refine e_then ?_
                  refine e_then ?_
                  refine e_here ?_
                  refine c_then ?_
                  refine c_seq ?_
                  refine c_seq (c_region ?_)
                  refine wv h (r_assign h rfl) rfl ?_
                  clear h a w; intro a w h
                  refine wnil (c_then ?_)
                  refine c_block ?_
                  refine c_loopX h (X := Nat × Value) (fun x => [(2, .pointer (some ⟨b2, 0, none⟩)), (3, vk), (4, vh), (5, va), (8, .int .i64 ((64 * k : Nat) : Int)), (9, x.2), (13, .int .i64 (x.1 : Int))])
                    (fun x => OwnL w32 x.2 (W.take x.1) :: M) (fun x => 16 ≤ x.1 ∧ x.1 ≤ 64) (fun x => 64 - x.1) (16, v9) (h.keep [2, 3, 4, 5, 8, 9, 13]) (by simp) ?_
                  clear h a w; intro x a w hx h
                  obtain ⟨i, v9⟩ := x
                  obtain ⟨hi1, hi2⟩ := hx
                  replace hi1 : 16 ≤ i := hi1
                  replace hi2 : i ≤ 64 := hi2
                  dsimp only at h
                  have hl9 : (W.take i).length = i := by rw [List.length_take]; omega
                  as_aux_lemma =>
                    refine c_seq ?_
                    refine c_seq (c_region ?_)
                    refine wv h (r_move h rfl) rfl ?_
                    clear h a w; intro a w h
                    refine wv h (r_bin h rfl rfl (B.lss_int)) rfl ?_
                    clear h a w; intro a w h
                    refine wnil (c_then ?_)
                    first
                      | refine c_condD h rfl (fun ht6 => ?_) (fun ht6 => ?_)
                      | refine c_condP h rfl (by first | (simp only [Bool.and_eq_true, Bool.or_eq_true, Bool.not_eq_true', decide_eq_true_eq, decide_eq_false_iff_not, ne_eq, Bool.not_eq_eq_eq_not, Bool.not_true, beq_iff_eq, bne_iff_ne]; exact Iff.rfl) | exact Iff.rfl) (fun ht6 => ?_) (fun ht6 => ?_)
                    ·
                      have hWi := hWhigh i hi1 (by omega)
                      have htk : W.take i ++ [shaNext (W.take i)] = W.take (i + 1) := by rw [List.take_add_one, hWi]; rfl
                      have hnx : (W.take i).getD (i - 16) 0 + shaS0 ((W.take i).getD (i - 15) 0) + (W.take i).getD (i - 7) 0 + shaS1 ((W.take i).getD (i - 2) 0) = shaNext (W.take i) := by rw [shaNext, hl9]
                      generalize W.take i = Y at *
                      refine c_skip ?_
                      refine c_then ?_
                      refine c_seq ?_
                      refine c_block ?_
                      refine c_seq (c_draw K.mixed (by kernel_rfl) h ?_)
                      clear h a w; intro a hE
                      refine qv hE (fun w hw => r_move ⟨hE, hw⟩ rfl) rfl ?_
                      clear hE a; intro a hE
                      refine qv hE (fun w hw => r_move ⟨hE, hw⟩ rfl) rfl ?_
                      clear hE a; intro a hE
                      refine qv hE (fun w hw => r_bin ⟨hE, hw⟩ rfl rfl (B.sub_i64 (by omega) (by omega))) rfl ?_
                      clear hE a; intro a hE
                      refine qv hE (fun w hw => r_elP ⟨hE, hw⟩ rfl rfl K.u_S_uint32 K.sz_uint32 (by first | exact Views.own 0 rfl | exact Views.own 1 rfl | exact Views.own 2 rfl | exact Views.own 3 rfl | exact Views.own 4 rfl | exact Views.own 5 rfl | assumption | exact Views.cons (by assumption) _ | exact Views.cons (Views.cons (by assumption) _) _ | exact Views.cons (Views.cons (Views.cons (by assumption) _) _) _ | exact Views.cons (Views.cons (Views.cons (Views.cons (by assumption) _) _) _) _) (by first | omega | (simp; done)) (by first | omega | (simp only [List.length_cons, List.length_nil]; omega) | (simp; done) | (simp; omega))) rfl ?_
                      clear hE a; intro a hE
                      refine qv hE (fun w hw => r_el32 ⟨hE, hw⟩ rfl K.u_uint32 rfl (by first | exact Views.own 0 rfl | exact Views.own 1 rfl | exact Views.own 2 rfl | exact Views.own 3 rfl | exact Views.own 4 rfl | exact Views.own 5 rfl | assumption | exact Views.cons (by assumption) _ | exact Views.cons (Views.cons (by assumption) _) _ | exact Views.cons (Views.cons (Views.cons (by assumption) _) _) _ | exact Views.cons (Views.cons (Views.cons (Views.cons (by assumption) _) _) _) _) (by first | omega | (simp only [List.length_cons, List.length_nil]; omega) | (simp; done) | (simp; omega))) rfl ?_
                      clear hE a; intro a hE
                      refine q_call hE rfl K.go_ref01_turn (fun w hw => Ret.keeps (ref_turn s w _ 7 (by omega) (by omega) _ hw) (fun _ _ => rfl) (fun _ _ h => h)) rfl ?_
                      clear hE a; intro a hE
                      refine qv hE (fun w hw => r_move ⟨hE, hw⟩ rfl) rfl ?_
                      clear hE a; intro a hE
                      refine qv hE (fun w hw => r_move ⟨hE, hw⟩ rfl) rfl ?_
                      clear hE a; intro a hE
                      refine qv hE (fun w hw => r_bin ⟨hE, hw⟩ rfl rfl (B.sub_i64 (by omega) (by omega))) rfl ?_
                      clear hE a; intro a hE
                      refine qv hE (fun w hw => r_elP ⟨hE, hw⟩ rfl rfl K.u_S_uint32 K.sz_uint32 (by first | exact Views.own 0 rfl | exact Views.own 1 rfl | exact Views.own 2 rfl | exact Views.own 3 rfl | exact Views.own 4 rfl | exact Views.own 5 rfl | assumption | exact Views.cons (by assumption) _ | exact Views.cons (Views.cons (by assumption) _) _ | exact Views.cons (Views.cons (Views.cons (by assumption) _) _) _ | exact Views.cons (Views.cons (Views.cons (Views.cons (by assumption) _) _) _) _) (by first | omega | (simp; done)) (by first | omega | (simp only [List.length_cons, List.length_nil]; omega) | (simp; done) | (simp; omega))) rfl ?_
                      clear hE a; intro a hE
                      refine qv hE (fun w hw => r_el32 ⟨hE, hw⟩ rfl K.u_uint32 rfl (by first | exact Views.own 0 rfl | exact Views.own 1 rfl | exact Views.own 2 rfl | exact Views.own 3 rfl | exact Views.own 4 rfl | exact Views.own 5 rfl | assumption | exact Views.cons (by assumption) _ | exact Views.cons (Views.cons (by assumption) _) _ | exact Views.cons (Views.cons (Views.cons (by assumption) _) _) _ | exact Views.cons (Views.cons (Views.cons (Views.cons (by assumption) _) _) _) _) (by first | omega | (simp only [List.length_cons, List.length_nil]; omega) | (simp; done) | (simp; omega))) rfl ?_
                      clear hE a; intro a hE
                      refine q_call hE rfl K.go_ref01_turn (fun w hw => Ret.keeps (ref_turn s w _ 18 (by omega) (by omega) _ hw) (fun _ _ => rfl) (fun _ _ h => h)) rfl ?_
                      clear hE a; intro a hE
                      refine qv hE (fun w hw => r_bin ⟨hE, hw⟩ rfl rfl (B.xor_u32)) rfl ?_
                      clear hE a; intro a hE
                      refine qv hE (fun w hw => r_move ⟨hE, hw⟩ rfl) rfl ?_
                      clear hE a; intro a hE
                      refine qv hE (fun w hw => r_move ⟨hE, hw⟩ rfl) rfl ?_
                      clear hE a; intro a hE
                      refine qv hE (fun w hw => r_bin ⟨hE, hw⟩ rfl rfl (B.sub_i64 (by omega) (by omega))) rfl ?_
                      clear hE a; intro a hE
                      refine qv hE (fun w hw => r_elP ⟨hE, hw⟩ rfl rfl K.u_S_uint32 K.sz_uint32 (by first | exact Views.own 0 rfl | exact Views.own 1 rfl | exact Views.own 2 rfl | exact Views.own 3 rfl | exact Views.own 4 rfl | exact Views.own 5 rfl | assumption | exact Views.cons (by assumption) _ | exact Views.cons (Views.cons (by assumption) _) _ | exact Views.cons (Views.cons (Views.cons (by assumption) _) _) _ | exact Views.cons (Views.cons (Views.cons (Views.cons (by assumption) _) _) _) _) (by first | omega | (simp; done)) (by first | omega | (simp only [List.length_cons, List.length_nil]; omega) | (simp; done) | (simp; omega))) rfl ?_
                      clear hE a; intro a hE
                      refine qv hE (fun w hw => r_el32 ⟨hE, hw⟩ rfl K.u_uint32 rfl (by first | exact Views.own 0 rfl | exact Views.own 1 rfl | exact Views.own 2 rfl | exact Views.own 3 rfl | exact Views.own 4 rfl | exact Views.own 5 rfl | assumption | exact Views.cons (by assumption) _ | exact Views.cons (Views.cons (by assumption) _) _ | exact Views.cons (Views.cons (Views.cons (by assumption) _) _) _ | exact Views.cons (Views.cons (Views.cons (Views.cons (by assumption) _) _) _) _) (by first | omega | (simp only [List.length_cons, List.length_nil]; omega) | (simp; done) | (simp; omega))) rfl ?_
                      clear hE a; intro a hE
                      refine qv hE (fun w hw => r_bin ⟨hE, hw⟩ rfl rfl (B.shr_u32 (by decide))) rfl ?_
                      clear hE a; intro a hE
                      refine qv hE (fun w hw => r_bin ⟨hE, hw⟩ rfl rfl (B.xor_u32)) rfl ?_
                      clear hE a; intro a hE
                      rw [show rotr (Y.getD (i - 15) 0) 7 ^^^ rotr (Y.getD (i - 15) 0) 18 ^^^ UInt32.ofNat ((Y.getD (i - 15) 0).toNat / 2 ^ (3 : Int).toNat) = shaS0 (Y.getD (i - 15) 0) from rfl] at hE
                      refine qv hE (fun w hw => r_assign ⟨hE, hw⟩ rfl) rfl ?_
                      clear hE a; intro a hE
                      refine qnil hE ?_
                      clear hE a; intro a w h
                      refine c_then ?_
                      refine c_seq (c_draw K.mixed (by kernel_rfl) h ?_)
                      clear h a w; intro a hE
                      refine qv hE (fun w hw => r_move ⟨hE, hw⟩ rfl) rfl ?_
                      clear hE a; intro a hE
                      refine qv hE (fun w hw => r_move ⟨hE, hw⟩ rfl) rfl ?_
                      clear hE a; intro a hE
                      refine qv hE (fun w hw => r_bin ⟨hE, hw⟩ rfl rfl (B.sub_i64 (by omega) (by omega))) rfl ?_
                      clear hE a; intro a hE
                      refine qv hE (fun w hw => r_elP ⟨hE, hw⟩ rfl rfl K.u_S_uint32 K.sz_uint32 (by first | exact Views.own 0 rfl | exact Views.own 1 rfl | exact Views.own 2 rfl | exact Views.own 3 rfl | exact Views.own 4 rfl | exact Views.own 5 rfl | assumption | exact Views.cons (by assumption) _ | exact Views.cons (Views.cons (by assumption) _) _ | exact Views.cons (Views.cons (Views.cons (by assumption) _) _) _ | exact Views.cons (Views.cons (Views.cons (Views.cons (by assumption) _) _) _) _) (by first | omega | (simp; done)) (by first | omega | (simp only [List.length_cons, List.length_nil]; omega) | (simp; done) | (simp; omega))) rfl ?_
                      clear hE a; intro a hE
                      refine qv hE (fun w hw => r_el32 ⟨hE, hw⟩ rfl K.u_uint32 rfl (by first | exact Views.own 0 rfl | exact Views.own 1 rfl | exact Views.own 2 rfl | exact Views.own 3 rfl | exact Views.own 4 rfl | exact Views.own 5 rfl | assumption | exact Views.cons (by assumption) _ | exact Views.cons (Views.cons (by assumption) _) _ | exact Views.cons (Views.cons (Views.cons (by assumption) _) _) _ | exact Views.cons (Views.cons (Views.cons (Views.cons (by assumption) _) _) _) _) (by first | omega | (simp only [List.length_cons, List.length_nil]; omega) | (simp; done) | (simp; omega))) rfl ?_
                      clear hE a; intro a hE
                      refine q_call hE rfl K.go_ref01_turn (fun w hw => Ret.keeps (ref_turn s w _ 17 (by omega) (by omega) _ hw) (fun _ _ => rfl) (fun _ _ h => h)) rfl ?_
                      clear hE a; intro a hE
                      refine qv hE (fun w hw => r_move ⟨hE, hw⟩ rfl) rfl ?_
                      clear hE a; intro a hE
                      refine qv hE (fun w hw => r_move ⟨hE, hw⟩ rfl) rfl ?_
                      clear hE a; intro a hE
                      refine qv hE (fun w hw => r_bin ⟨hE, hw⟩ rfl rfl (B.sub_i64 (by omega) (by omega))) rfl ?_
                      clear hE a; intro a hE
                      refine qv hE (fun w hw => r_elP ⟨hE, hw⟩ rfl rfl K.u_S_uint32 K.sz_uint32 (by first | exact Views.own 0 rfl | exact Views.own 1 rfl | exact Views.own 2 rfl | exact Views.own 3 rfl | exact Views.own 4 rfl | exact Views.own 5 rfl | assumption | exact Views.cons (by assumption) _ | exact Views.cons (Views.cons (by assumption) _) _ | exact Views.cons (Views.cons (Views.cons (by assumption) _) _) _ | exact Views.cons (Views.cons (Views.cons (Views.cons (by assumption) _) _) _) _) (by first | omega | (simp; done)) (by first | omega | (simp only [List.length_cons, List.length_nil]; omega) | (simp; done) | (simp; omega))) rfl ?_
                      clear hE a; intro a hE
                      refine qv hE (fun w hw => r_el32 ⟨hE, hw⟩ rfl K.u_uint32 rfl (by first | exact Views.own 0 rfl | exact Views.own 1 rfl | exact Views.own 2 rfl | exact Views.own 3 rfl | exact Views.own 4 rfl | exact Views.own 5 rfl | assumption | exact Views.cons (by assumption) _ | exact Views.cons (Views.cons (by assumption) _) _ | exact Views.cons (Views.cons (Views.cons (by assumption) _) _) _ | exact Views.cons (Views.cons (Views.cons (Views.cons (by assumption) _) _) _) _) (by first | omega | (simp only [List.length_cons, List.length_nil]; omega) | (simp; done) | (simp; omega))) rfl ?_
                      clear hE a; intro a hE
                      refine q_call hE rfl K.go_ref01_turn (fun w hw => Ret.keeps (ref_turn s w _ 19 (by omega) (by omega) _ hw) (fun _ _ => rfl) (fun _ _ h => h)) rfl ?_
                      clear hE a; intro a hE
                      refine qv hE (fun w hw => r_bin ⟨hE, hw⟩ rfl rfl (B.xor_u32)) rfl ?_
                      clear hE a; intro a hE
                      refine qv hE (fun w hw => r_move ⟨hE, hw⟩ rfl) rfl ?_
                      clear hE a; intro a hE
                      refine qv hE (fun w hw => r_move ⟨hE, hw⟩ rfl) rfl ?_
                      clear hE a; intro a hE
                      refine qv hE (fun w hw => r_bin ⟨hE, hw⟩ rfl rfl (B.sub_i64 (by omega) (by omega))) rfl ?_
                      clear hE a; intro a hE
                      refine qv hE (fun w hw => r_elP ⟨hE, hw⟩ rfl rfl K.u_S_uint32 K.sz_uint32 (by first | exact Views.own 0 rfl | exact Views.own 1 rfl | exact Views.own 2 rfl | exact Views.own 3 rfl | exact Views.own 4 rfl | exact Views.own 5 rfl | assumption | exact Views.cons (by assumption) _ | exact Views.cons (Views.cons (by assumption) _) _ | exact Views.cons (Views.cons (Views.cons (by assumption) _) _) _ | exact Views.cons (Views.cons (Views.cons (Views.cons (by assumption) _) _) _) _) (by first | omega | (simp; done)) (by first | omega | (simp only [List.length_cons, List.length_nil]; omega) | (simp; done) | (simp; omega))) rfl ?_
                      clear hE a; intro a hE
                      refine qv hE (fun w hw => r_el32 ⟨hE, hw⟩ rfl K.u_uint32 rfl (by first | exact Views.own 0 rfl | exact Views.own 1 rfl | exact Views.own 2 rfl | exact Views.own 3 rfl | exact Views.own 4 rfl | exact Views.own 5 rfl | assumption | exact Views.cons (by assumption) _ | exact Views.cons (Views.cons (by assumption) _) _ | exact Views.cons (Views.cons (Views.cons (by assumption) _) _) _ | exact Views.cons (Views.cons (Views.cons (Views.cons (by assumption) _) _) _) _) (by first | omega | (simp only [List.length_cons, List.length_nil]; omega) | (simp; done) | (simp; omega))) rfl ?_
                      clear hE a; intro a hE
                      refine qv hE (fun w hw => r_bin ⟨hE, hw⟩ rfl rfl (B.shr_u32 (by decide))) rfl ?_
                      clear hE a; intro a hE
                      refine qv hE (fun w hw => r_bin ⟨hE, hw⟩ rfl rfl (B.xor_u32)) rfl ?_
                      clear hE a; intro a hE
                      rw [show rotr (Y.getD (i - 2) 0) 17 ^^^ rotr (Y.getD (i - 2) 0) 19 ^^^ UInt32.ofNat ((Y.getD (i - 2) 0).toNat / 2 ^ (10 : Int).toNat) = shaS1 (Y.getD (i - 2) 0) from rfl] at hE
                      refine qv hE (fun w hw => r_assign ⟨hE, hw⟩ rfl) rfl ?_
                      clear hE a; intro a hE
                      refine qnil hE ?_
                      clear hE a; intro a w h
                      refine c_then ?_
                      refine c_held ((Rd 1 v9 Y.length (Y.map w32) :: M)) 19 K.mixed rfl h ?_
                      clear h a w; intro a w h
                      refine h_take (listed' := #[true, false, false, false, false, false, false, false, false, false, false, false, false, false, false, false, false, false, false]) h 0 (by as_aux_lemma => kernel_rfl) rfl (by as_aux_lemma => kernel_rfl) (by as_aux_lemma => kernel_rfl) (by as_aux_lemma => kernel_rfl) (fun _ _ _ hh => hh) (by first | exact h.2.rd0 | exact (h.2.drop 1).rd0 | exact hR | exact h.2 | exact h.2.drop 1 | exact h.2.drop 2 | exact h.2.drop 3 | exact h.2.drop 4 | exact h.2.drop 5 | exact h.2.drop 6) (fun w hw => r_move ⟨h.1, hw⟩ rfl) rfl ?_
                      try clear hR
                      clear h a w; intro a w h
                      refine h_take (listed' := #[true, true, false, false, false, false, false, false, false, false, false, false, false, false, false, false, false, false, false]) h 1 (by as_aux_lemma => kernel_rfl) rfl (by as_aux_lemma => kernel_rfl) (by as_aux_lemma => kernel_rfl) (by as_aux_lemma => kernel_rfl) (fun _ _ _ hh => hh) (by first | exact h.2.rd0 | exact (h.2.drop 1).rd0 | exact hR | exact h.2 | exact h.2.drop 1 | exact h.2.drop 2 | exact h.2.drop 3 | exact h.2.drop 4 | exact h.2.drop 5 | exact h.2.drop 6) (fun w hw => r_move ⟨h.1, hw⟩ rfl) rfl ?_
                      try clear hR
                      clear h a w; intro a w h
                      refine h_take (listed' := #[true, true, true, false, false, false, false, false, false, false, false, false, false, false, false, false, false, false, false]) h 2 (by as_aux_lemma => kernel_rfl) rfl (by as_aux_lemma => kernel_rfl) (by as_aux_lemma => kernel_rfl) (by as_aux_lemma => kernel_rfl) (fun _ _ _ hh => hh) (by first | exact h.2.rd0 | exact (h.2.drop 1).rd0 | exact hR | exact h.2 | exact h.2.drop 1 | exact h.2.drop 2 | exact h.2.drop 3 | exact h.2.drop 4 | exact h.2.drop 5 | exact h.2.drop 6) (fun w hw => r_move ⟨h.1, hw⟩ rfl) rfl ?_
                      try clear hR
                      clear h a w; intro a w h
                      refine h_take (listed' := #[true, true, true, true, false, false, false, false, false, false, false, false, false, false, false, false, false, false, false]) h 3 (by as_aux_lemma => kernel_rfl) rfl (by as_aux_lemma => kernel_rfl) (by as_aux_lemma => kernel_rfl) (by as_aux_lemma => kernel_rfl) (fun _ _ _ hh => hh) (by first | exact h.2.rd0 | exact (h.2.drop 1).rd0 | exact hR | exact h.2 | exact h.2.drop 1 | exact h.2.drop 2 | exact h.2.drop 3 | exact h.2.drop 4 | exact h.2.drop 5 | exact h.2.drop 6) (fun w hw => r_bin ⟨h.1, hw⟩ rfl rfl (B.sub_i64 (by omega) (by omega))) rfl ?_
                      try clear hR
                      clear h a w; intro a w h
                      refine h_take (listed' := #[true, true, true, true, true, false, false, false, false, false, false, false, false, false, false, false, false, false, false]) h 4 (by as_aux_lemma => kernel_rfl) rfl (by as_aux_lemma => kernel_rfl) (by as_aux_lemma => kernel_rfl) (by as_aux_lemma => kernel_rfl) (fun _ _ _ hh => hh) (by first | exact h.2.rd0 | exact (h.2.drop 1).rd0 | exact hR | exact h.2 | exact h.2.drop 1 | exact h.2.drop 2 | exact h.2.drop 3 | exact h.2.drop 4 | exact h.2.drop 5 | exact h.2.drop 6) (fun w hw => r_elP ⟨h.1, hw⟩ rfl rfl K.u_S_uint32 K.sz_uint32 (Views.rd 0 rfl) (by omega) (by omega)) rfl ?_
                      try clear hR
                      clear h a w; intro a w h
                      refine h_take (listed' := #[true, true, true, true, true, true, false, false, false, false, false, false, false, false, false, false, false, false, false]) h 5 (by as_aux_lemma => kernel_rfl) rfl (by as_aux_lemma => kernel_rfl) (by as_aux_lemma => kernel_rfl) (by as_aux_lemma => kernel_rfl) (fun _ _ _ hh => hh) (by first | exact h.2.rd0 | exact (h.2.drop 1).rd0 | exact hR | exact h.2 | exact h.2.drop 1 | exact h.2.drop 2 | exact h.2.drop 3 | exact h.2.drop 4 | exact h.2.drop 5 | exact h.2.drop 6) (fun w hw => r_el32 ⟨h.1, hw⟩ rfl K.u_uint32 rfl (Views.rd 0 rfl) (by omega)) rfl ?_
                      try clear hR
                      clear h a w; intro a w h
                      refine h_take (listed' := #[true, true, true, true, true, true, true, false, false, false, false, false, false, false, false, false, false, false, false]) h 6 (by as_aux_lemma => kernel_rfl) rfl (by as_aux_lemma => kernel_rfl) (by as_aux_lemma => kernel_rfl) (by as_aux_lemma => kernel_rfl) (fun _ _ _ hh => hh) (by first | exact h.2.rd0 | exact (h.2.drop 1).rd0 | exact hR | exact h.2 | exact h.2.drop 1 | exact h.2.drop 2 | exact h.2.drop 3 | exact h.2.drop 4 | exact h.2.drop 5 | exact h.2.drop 6) (fun w hw => r_move ⟨h.1, hw⟩ rfl) rfl ?_
                      try clear hR
                      clear h a w; intro a w h
                      refine h_take (listed' := #[true, true, true, true, true, true, true, true, false, false, false, false, false, false, false, false, false, false, false]) h 7 (by as_aux_lemma => kernel_rfl) rfl (by as_aux_lemma => kernel_rfl) (by as_aux_lemma => kernel_rfl) (by as_aux_lemma => kernel_rfl) (fun _ _ _ hh => hh) (by first | exact h.2.rd0 | exact (h.2.drop 1).rd0 | exact hR | exact h.2 | exact h.2.drop 1 | exact h.2.drop 2 | exact h.2.drop 3 | exact h.2.drop 4 | exact h.2.drop 5 | exact h.2.drop 6) (fun w hw => r_bin ⟨h.1, hw⟩ rfl rfl (B.add_u32)) rfl ?_
                      try clear hR
                      clear h a w; intro a w h
                      refine h_take (listed' := #[true, true, true, true, true, true, true, true, true, false, false, false, false, false, false, false, false, false, false]) h 8 (by as_aux_lemma => kernel_rfl) rfl (by as_aux_lemma => kernel_rfl) (by as_aux_lemma => kernel_rfl) (by as_aux_lemma => kernel_rfl) (fun _ _ _ hh => hh) (by first | exact h.2.rd0 | exact (h.2.drop 1).rd0 | exact hR | exact h.2 | exact h.2.drop 1 | exact h.2.drop 2 | exact h.2.drop 3 | exact h.2.drop 4 | exact h.2.drop 5 | exact h.2.drop 6) (fun w hw => r_move ⟨h.1, hw⟩ rfl) rfl ?_
                      try clear hR
                      clear h a w; intro a w h
                      refine h_take (listed' := #[true, true, true, true, true, true, true, true, true, true, false, false, false, false, false, false, false, false, false]) h 9 (by as_aux_lemma => kernel_rfl) rfl (by as_aux_lemma => kernel_rfl) (by as_aux_lemma => kernel_rfl) (by as_aux_lemma => kernel_rfl) (fun _ _ _ hh => hh) (by first | exact h.2.rd0 | exact (h.2.drop 1).rd0 | exact hR | exact h.2 | exact h.2.drop 1 | exact h.2.drop 2 | exact h.2.drop 3 | exact h.2.drop 4 | exact h.2.drop 5 | exact h.2.drop 6) (fun w hw => r_move ⟨h.1, hw⟩ rfl) rfl ?_
                      try clear hR
                      clear h a w; intro a w h
                      refine h_take (listed' := #[true, true, true, true, true, true, true, true, true, true, true, false, false, false, false, false, false, false, false]) h 10 (by as_aux_lemma => kernel_rfl) rfl (by as_aux_lemma => kernel_rfl) (by as_aux_lemma => kernel_rfl) (by as_aux_lemma => kernel_rfl) (fun _ _ _ hh => hh) (by first | exact h.2.rd0 | exact (h.2.drop 1).rd0 | exact hR | exact h.2 | exact h.2.drop 1 | exact h.2.drop 2 | exact h.2.drop 3 | exact h.2.drop 4 | exact h.2.drop 5 | exact h.2.drop 6) (fun w hw => r_bin ⟨h.1, hw⟩ rfl rfl (B.sub_i64 (by omega) (by omega))) rfl ?_
                      try clear hR
                      clear h a w; intro a w h
                      refine h_take (listed' := #[true, true, true, true, true, true, true, true, true, true, true, true, false, false, false, false, false, false, false]) h 11 (by as_aux_lemma => kernel_rfl) rfl (by as_aux_lemma => kernel_rfl) (by as_aux_lemma => kernel_rfl) (by as_aux_lemma => kernel_rfl) (fun _ _ _ hh => hh) (by first | exact h.2.rd0 | exact (h.2.drop 1).rd0 | exact hR | exact h.2 | exact h.2.drop 1 | exact h.2.drop 2 | exact h.2.drop 3 | exact h.2.drop 4 | exact h.2.drop 5 | exact h.2.drop 6) (fun w hw => r_elP ⟨h.1, hw⟩ rfl rfl K.u_S_uint32 K.sz_uint32 (Views.rd 0 rfl) (by omega) (by omega)) rfl ?_
                      try clear hR
                      clear h a w; intro a w h
                      refine h_take (listed' := #[true, true, true, true, true, true, true, true, true, true, true, true, true, false, false, false, false, false, false]) h 12 (by as_aux_lemma => kernel_rfl) rfl (by as_aux_lemma => kernel_rfl) (by as_aux_lemma => kernel_rfl) (by as_aux_lemma => kernel_rfl) (fun _ _ _ hh => hh) (by first | exact h.2.rd0 | exact (h.2.drop 1).rd0 | exact hR | exact h.2 | exact h.2.drop 1 | exact h.2.drop 2 | exact h.2.drop 3 | exact h.2.drop 4 | exact h.2.drop 5 | exact h.2.drop 6) (fun w hw => r_el32 ⟨h.1, hw⟩ rfl K.u_uint32 rfl (Views.rd 0 rfl) (by omega)) rfl ?_
                      try clear hR
                      clear h a w; intro a w h
                      refine h_take (listed' := #[true, true, true, true, true, true, true, true, true, true, true, true, true, true, false, false, false, false, false]) h 13 (by as_aux_lemma => kernel_rfl) rfl (by as_aux_lemma => kernel_rfl) (by as_aux_lemma => kernel_rfl) (by as_aux_lemma => kernel_rfl) (fun _ _ _ hh => hh) (by first | exact h.2.rd0 | exact (h.2.drop 1).rd0 | exact hR | exact h.2 | exact h.2.drop 1 | exact h.2.drop 2 | exact h.2.drop 3 | exact h.2.drop 4 | exact h.2.drop 5 | exact h.2.drop 6) (fun w hw => r_bin ⟨h.1, hw⟩ rfl rfl (B.add_u32)) rfl ?_
                      try clear hR
                      clear h a w; intro a w h
                      refine h_take (listed' := #[true, true, true, true, true, true, true, true, true, true, true, true, true, true, true, false, false, false, false]) h 14 (by as_aux_lemma => kernel_rfl) rfl (by as_aux_lemma => kernel_rfl) (by as_aux_lemma => kernel_rfl) (by as_aux_lemma => kernel_rfl) (fun _ _ _ hh => hh) (by first | exact h.2.rd0 | exact (h.2.drop 1).rd0 | exact hR | exact h.2 | exact h.2.drop 1 | exact h.2.drop 2 | exact h.2.drop 3 | exact h.2.drop 4 | exact h.2.drop 5 | exact h.2.drop 6) (fun w hw => r_move ⟨h.1, hw⟩ rfl) rfl ?_
                      try clear hR
                      clear h a w; intro a w h
                      refine h_take (listed' := #[true, true, true, true, true, true, true, true, true, true, true, true, true, true, true, true, false, false, false]) h 15 (by as_aux_lemma => kernel_rfl) rfl (by as_aux_lemma => kernel_rfl) (by as_aux_lemma => kernel_rfl) (by as_aux_lemma => kernel_rfl) (fun _ _ _ hh => hh) (by first | exact h.2.rd0 | exact (h.2.drop 1).rd0 | exact hR | exact h.2 | exact h.2.drop 1 | exact h.2.drop 2 | exact h.2.drop 3 | exact h.2.drop 4 | exact h.2.drop 5 | exact h.2.drop 6) (fun w hw => r_bin ⟨h.1, hw⟩ rfl rfl (B.add_u32)) rfl ?_
                      try clear hR
                      clear h a w; intro a w h
                      rw [hnx] at h
                      refine h_only (listed' := #[true, true, true, true, true, true, true, true, true, true, true, true, true, true, true, true, true, false, false]) 16 (by as_aux_lemma => kernel_rfl) rfl rfl (by as_aux_lemma => kernel_rfl) ?_
                      refine op_buildSlice h K.u_S_uint32 K.sz_uint32 K.z_uint32 rfl rfl rfl rfl rfl (by simp [Value.cells, bv, w32, w64, sv]) rfl ?_
                      clear h a w; intro b152 a w h
                      refine ⟨(by first | exact h.2.rd0 | exact (h.2.drop 1).rd0 | exact hR | exact h.2 | exact h.2.drop 1 | exact h.2.drop 2 | exact h.2.drop 3 | exact h.2.drop 4 | exact h.2.drop 5 | exact h.2.drop 6), ?_⟩
                      refine h_only (listed' := #[true, true, true, true, true, true, true, true, true, true, true, true, true, true, true, true, true, true, false]) 17 (by as_aux_lemma => kernel_rfl) rfl rfl (by as_aux_lemma => kernel_rfl) ?_
                      refine op_appendL1R (enc := w32) h rfl rfl rfl K.u_S_uint32 K.sz_uint32 K.z_uint32 rfl rfl 0 rfl (by omega) rfl ?_
                      clear h a w; intro v153 a w hR h
                      (try simp only [List.set_cons_zero, List.set_cons_succ] at h)
                      simp only [List.set_cons_zero] at h hR
                      rw [htk] at h
                      refine ⟨(by first | exact h.2.rd0 | exact (h.2.drop 1).rd0 | exact hR | exact h.2 | exact h.2.drop 1 | exact h.2.drop 2 | exact h.2.drop 3 | exact h.2.drop 4 | exact h.2.drop 5 | exact h.2.drop 6), ?_⟩
                      refine h_take (listed' := #[true, true, true, true, true, true, true, true, true, true, true, true, true, true, true, true, true, true, true]) h 18 (by as_aux_lemma => kernel_rfl) rfl (by as_aux_lemma => kernel_rfl) (by as_aux_lemma => kernel_rfl) (by as_aux_lemma => kernel_rfl) (fun _ _ _ hh => hh) (by first | exact h.2.rd0 | exact (h.2.drop 1).rd0 | exact hR | exact h.2 | exact h.2.drop 1 | exact h.2.drop 2 | exact h.2.drop 3 | exact h.2.drop 4 | exact h.2.drop 5 | exact h.2.drop 6) (fun w hw => r_assign ⟨h.1, hw⟩ rfl) rfl ?_
                      try clear hR
                      clear h a w; intro a w h
                      refine h_done (by kernel_rfl) ?_
                      refine b_normal ?_
                      refine c_then ?_
                      refine c_region ?_
                      refine wv h (r_move h rfl) rfl ?_
                      clear h a w; intro a w h
                      refine wv h (r_bin h rfl rfl (B.add_i64 (by omega) (by omega))) rfl ?_
                      clear h a w; intro a w h
                      refine wv h (r_assign h rfl) rfl ?_
                      clear h a w; intro a w h
                      refine wnil ?_
                      exact ⟨(i + 1, v153), h.keep [2, 3, 4, 5, 8, 9, 13], (by show 16 ≤ i + 1 ∧ i + 1 ≤ 64; omega), by show 64 - (i + 1) < 64 - i; omega⟩
                    ·
                      obtain rfl : i = 64 := by omega
                      rw [List.take_of_length_le (by omega)] at h
                      refine c_exit ?_
                      refine e_then ?_
                      refine e_then ?_
                      refine e_here ?_
                      refine c_then ?_
                      refine c_seq (c_region ?_)
                      refine wv h (r_move h rfl) rfl ?_
                      clear h a w; intro a w h
                      refine wv h (r_elP h rfl rfl K.u_S_uint32 K.sz_uint32 (by first | exact Views.own 0 rfl | exact Views.own 1 rfl | exact Views.own 2 rfl | exact Views.own 3 rfl | exact Views.own 4 rfl | exact Views.own 5 rfl | assumption | exact Views.cons (by assumption) _ | exact Views.cons (Views.cons (by assumption) _) _ | exact Views.cons (Views.cons (Views.cons (by assumption) _) _) _ | exact Views.cons (Views.cons (Views.cons (Views.cons (by assumption) _) _) _) _) (by first | omega | (simp; done)) (by first | omega | (simp only [List.length_cons, List.length_nil]; omega) | (simp; done) | (simp; omega))) rfl ?_
                      clear h a w; intro a w h
                      refine wv h (r_el32 h rfl K.u_uint32 rfl (by first | exact Views.own 0 rfl | exact Views.own 1 rfl | exact Views.own 2 rfl | exact Views.own 3 rfl | exact Views.own 4 rfl | exact Views.own 5 rfl | assumption | exact Views.cons (by assumption) _ | exact Views.cons (Views.cons (by assumption) _) _ | exact Views.cons (Views.cons (Views.cons (by assumption) _) _) _ | exact Views.cons (Views.cons (Views.cons (Views.cons (by assumption) _) _) _) _) (by first | omega | (simp only [List.length_cons, List.length_nil]; omega) | (simp; done) | (simp; omega))) rfl ?_
                      clear h a w; intro a w h
                      rw [show hh.lst.getD 0 0 = hh.a from rfl] at h
                      refine wv h (r_assign h rfl) rfl ?_
                      clear h a w; intro a w h
                      refine wnil (c_then ?_)
                      refine c_seq (c_region ?_)
                      refine wv h (r_move h rfl) rfl ?_
                      clear h a w; intro a w h
                      refine wv h (r_elP h rfl rfl K.u_S_uint32 K.sz_uint32 (by first | exact Views.own 0 rfl | exact Views.own 1 rfl | exact Views.own 2 rfl | exact Views.own 3 rfl | exact Views.own 4 rfl | exact Views.own 5 rfl | assumption | exact Views.cons (by assumption) _ | exact Views.cons (Views.cons (by assumption) _) _ | exact Views.cons (Views.cons (Views.cons (by assumption) _) _) _ | exact Views.cons (Views.cons (Views.cons (Views.cons (by assumption) _) _) _) _) (by first | omega | (simp; done)) (by first | omega | (simp only [List.length_cons, List.length_nil]; omega) | (simp; done) | (simp; omega))) rfl ?_
                      clear h a w; intro a w h
                      refine wv h (r_el32 h rfl K.u_uint32 rfl (by first | exact Views.own 0 rfl | exact Views.own 1 rfl | exact Views.own 2 rfl | exact Views.own 3 rfl | exact Views.own 4 rfl | exact Views.own 5 rfl | assumption | exact Views.cons (by assumption) _ | exact Views.cons (Views.cons (by assumption) _) _ | exact Views.cons (Views.cons (Views.cons (by assumption) _) _) _ | exact Views.cons (Views.cons (Views.cons (Views.cons (by assumption) _) _) _) _) (by first | omega | (simp only [List.length_cons, List.length_nil]; omega) | (simp; done) | (simp; omega))) rfl ?_
                      clear h a w; intro a w h
                      rw [show hh.lst.getD 1 0 = hh.b from rfl] at h
                      refine wv h (r_assign h rfl) rfl ?_
                      clear h a w; intro a w h
                      refine wnil (c_then ?_)
                      refine c_seq (c_region ?_)
                      refine wv h (r_move h rfl) rfl ?_
                      clear h a w; intro a w h
                      refine wv h (r_elP h rfl rfl K.u_S_uint32 K.sz_uint32 (by first | exact Views.own 0 rfl | exact Views.own 1 rfl | exact Views.own 2 rfl | exact Views.own 3 rfl | exact Views.own 4 rfl | exact Views.own 5 rfl | assumption | exact Views.cons (by assumption) _ | exact Views.cons (Views.cons (by assumption) _) _ | exact Views.cons (Views.cons (Views.cons (by assumption) _) _) _ | exact Views.cons (Views.cons (Views.cons (Views.cons (by assumption) _) _) _) _) (by first | omega | (simp; done)) (by first | omega | (simp only [List.length_cons, List.length_nil]; omega) | (simp; done) | (simp; omega))) rfl ?_
                      clear h a w; intro a w h
                      refine wv h (r_el32 h rfl K.u_uint32 rfl (by first | exact Views.own 0 rfl | exact Views.own 1 rfl | exact Views.own 2 rfl | exact Views.own 3 rfl | exact Views.own 4 rfl | exact Views.own 5 rfl | assumption | exact Views.cons (by assumption) _ | exact Views.cons (Views.cons (by assumption) _) _ | exact Views.cons (Views.cons (Views.cons (by assumption) _) _) _ | exact Views.cons (Views.cons (Views.cons (Views.cons (by assumption) _) _) _) _) (by first | omega | (simp only [List.length_cons, List.length_nil]; omega) | (simp; done) | (simp; omega))) rfl ?_
                      clear h a w; intro a w h
                      rw [show hh.lst.getD 2 0 = hh.c from rfl] at h
                      refine wv h (r_assign h rfl) rfl ?_
                      clear h a w; intro a w h
                      refine wnil (c_then ?_)
                      refine c_seq (c_region ?_)
                      refine wv h (r_move h rfl) rfl ?_
                      clear h a w; intro a w h
                      refine wv h (r_elP h rfl rfl K.u_S_uint32 K.sz_uint32 (by first | exact Views.own 0 rfl | exact Views.own 1 rfl | exact Views.own 2 rfl | exact Views.own 3 rfl | exact Views.own 4 rfl | exact Views.own 5 rfl | assumption | exact Views.cons (by assumption) _ | exact Views.cons (Views.cons (by assumption) _) _ | exact Views.cons (Views.cons (Views.cons (by assumption) _) _) _ | exact Views.cons (Views.cons (Views.cons (Views.cons (by assumption) _) _) _) _) (by first | omega | (simp; done)) (by first | omega | (simp only [List.length_cons, List.length_nil]; omega) | (simp; done) | (simp; omega))) rfl ?_
                      clear h a w; intro a w h
                      refine wv h (r_el32 h rfl K.u_uint32 rfl (by first | exact Views.own 0 rfl | exact Views.own 1 rfl | exact Views.own 2 rfl | exact Views.own 3 rfl | exact Views.own 4 rfl | exact Views.own 5 rfl | assumption | exact Views.cons (by assumption) _ | exact Views.cons (Views.cons (by assumption) _) _ | exact Views.cons (Views.cons (Views.cons (by assumption) _) _) _ | exact Views.cons (Views.cons (Views.cons (Views.cons (by assumption) _) _) _) _) (by first | omega | (simp only [List.length_cons, List.length_nil]; omega) | (simp; done) | (simp; omega))) rfl ?_
                      clear h a w; intro a w h
                      rw [show hh.lst.getD 3 0 = hh.d from rfl] at h
                      refine wv h (r_assign h rfl) rfl ?_
                      clear h a w; intro a w h
                      refine wnil (c_then ?_)
                      refine c_seq (c_region ?_)
                      refine wv h (r_move h rfl) rfl ?_
                      clear h a w; intro a w h
                      refine wv h (r_elP h rfl rfl K.u_S_uint32 K.sz_uint32 (by first | exact Views.own 0 rfl | exact Views.own 1 rfl | exact Views.own 2 rfl | exact Views.own 3 rfl | exact Views.own 4 rfl | exact Views.own 5 rfl | assumption | exact Views.cons (by assumption) _ | exact Views.cons (Views.cons (by assumption) _) _ | exact Views.cons (Views.cons (Views.cons (by assumption) _) _) _ | exact Views.cons (Views.cons (Views.cons (Views.cons (by assumption) _) _) _) _) (by first | omega | (simp; done)) (by first | omega | (simp only [List.length_cons, List.length_nil]; omega) | (simp; done) | (simp; omega))) rfl ?_
                      clear h a w; intro a w h
                      refine wv h (r_el32 h rfl K.u_uint32 rfl (by first | exact Views.own 0 rfl | exact Views.own 1 rfl | exact Views.own 2 rfl | exact Views.own 3 rfl | exact Views.own 4 rfl | exact Views.own 5 rfl | assumption | exact Views.cons (by assumption) _ | exact Views.cons (Views.cons (by assumption) _) _ | exact Views.cons (Views.cons (Views.cons (by assumption) _) _) _ | exact Views.cons (Views.cons (Views.cons (Views.cons (by assumption) _) _) _) _) (by first | omega | (simp only [List.length_cons, List.length_nil]; omega) | (simp; done) | (simp; omega))) rfl ?_
                      clear h a w; intro a w h
                      rw [show hh.lst.getD 4 0 = hh.e from rfl] at h
                      refine wv h (r_assign h rfl) rfl ?_
                      clear h a w; intro a w h
                      refine wnil (c_then ?_)
                      refine c_seq (c_region ?_)
                      refine wv h (r_move h rfl) rfl ?_
                      clear h a w; intro a w h
                      refine wv h (r_elP h rfl rfl K.u_S_uint32 K.sz_uint32 (by first | exact Views.own 0 rfl | exact Views.own 1 rfl | exact Views.own 2 rfl | exact Views.own 3 rfl | exact Views.own 4 rfl | exact Views.own 5 rfl | assumption | exact Views.cons (by assumption) _ | exact Views.cons (Views.cons (by assumption) _) _ | exact Views.cons (Views.cons (Views.cons (by assumption) _) _) _ | exact Views.cons (Views.cons (Views.cons (Views.cons (by assumption) _) _) _) _) (by first | omega | (simp; done)) (by first | omega | (simp only [List.length_cons, List.length_nil]; omega) | (simp; done) | (simp; omega))) rfl ?_
                      clear h a w; intro a w h
                      refine wv h (r_el32 h rfl K.u_uint32 rfl (by first | exact Views.own 0 rfl | exact Views.own 1 rfl | exact Views.own 2 rfl | exact Views.own 3 rfl | exact Views.own 4 rfl | exact Views.own 5 rfl | assumption | exact Views.cons (by assumption) _ | exact Views.cons (Views.cons (by assumption) _) _ | exact Views.cons (Views.cons (Views.cons (by assumption) _) _) _ | exact Views.cons (Views.cons (Views.cons (Views.cons (by assumption) _) _) _) _) (by first | omega | (simp only [List.length_cons, List.length_nil]; omega) | (simp; done) | (simp; omega))) rfl ?_
                      clear h a w; intro a w h
                      rw [show hh.lst.getD 5 0 = hh.f from rfl] at h
                      refine wv h (r_assign h rfl) rfl ?_
                      clear h a w; intro a w h
                      refine wnil (c_then ?_)
                      refine c_seq (c_region ?_)
                      refine wv h (r_move h rfl) rfl ?_
                      clear h a w; intro a w h
                      refine wv h (r_elP h rfl rfl K.u_S_uint32 K.sz_uint32 (by first | exact Views.own 0 rfl | exact Views.own 1 rfl | exact Views.own 2 rfl | exact Views.own 3 rfl | exact Views.own 4 rfl | exact Views.own 5 rfl | assumption | exact Views.cons (by assumption) _ | exact Views.cons (Views.cons (by assumption) _) _ | exact Views.cons (Views.cons (Views.cons (by assumption) _) _) _ | exact Views.cons (Views.cons (Views.cons (Views.cons (by assumption) _) _) _) _) (by first | omega | (simp; done)) (by first | omega | (simp only [List.length_cons, List.length_nil]; omega) | (simp; done) | (simp; omega))) rfl ?_
                      clear h a w; intro a w h
                      refine wv h (r_el32 h rfl K.u_uint32 rfl (by first | exact Views.own 0 rfl | exact Views.own 1 rfl | exact Views.own 2 rfl | exact Views.own 3 rfl | exact Views.own 4 rfl | exact Views.own 5 rfl | assumption | exact Views.cons (by assumption) _ | exact Views.cons (Views.cons (by assumption) _) _ | exact Views.cons (Views.cons (Views.cons (by assumption) _) _) _ | exact Views.cons (Views.cons (Views.cons (Views.cons (by assumption) _) _) _) _) (by first | omega | (simp only [List.length_cons, List.length_nil]; omega) | (simp; done) | (simp; omega))) rfl ?_
                      clear h a w; intro a w h
                      rw [show hh.lst.getD 6 0 = hh.g from rfl] at h
                      refine wv h (r_assign h rfl) rfl ?_
                      clear h a w; intro a w h
                      refine wnil (c_then ?_)
                      refine c_seq (c_region ?_)
                      refine wv h (r_move h rfl) rfl ?_
                      clear h a w; intro a w h
                      refine wv h (r_elP h rfl rfl K.u_S_uint32 K.sz_uint32 (by first | exact Views.own 0 rfl | exact Views.own 1 rfl | exact Views.own 2 rfl | exact Views.own 3 rfl | exact Views.own 4 rfl | exact Views.own 5 rfl | assumption | exact Views.cons (by assumption) _ | exact Views.cons (Views.cons (by assumption) _) _ | exact Views.cons (Views.cons (Views.cons (by assumption) _) _) _ | exact Views.cons (Views.cons (Views.cons (Views.cons (by assumption) _) _) _) _) (by first | omega | (simp; done)) (by first | omega | (simp only [List.length_cons, List.length_nil]; omega) | (simp; done) | (simp; omega))) rfl ?_
                      clear h a w; intro a w h
                      refine wv h (r_el32 h rfl K.u_uint32 rfl (by first | exact Views.own 0 rfl | exact Views.own 1 rfl | exact Views.own 2 rfl | exact Views.own 3 rfl | exact Views.own 4 rfl | exact Views.own 5 rfl | assumption | exact Views.cons (by assumption) _ | exact Views.cons (Views.cons (by assumption) _) _ | exact Views.cons (Views.cons (Views.cons (by assumption) _) _) _ | exact Views.cons (Views.cons (Views.cons (Views.cons (by assumption) _) _) _) _) (by first | omega | (simp only [List.length_cons, List.length_nil]; omega) | (simp; done) | (simp; omega))) rfl ?_
                      clear h a w; intro a w h
                      rw [show hh.lst.getD 7 0 = hh.z from rfl] at h
                      refine wv h (r_assign h rfl) rfl ?_
                      clear h a w; intro a w h
                      refine wnil (c_then ?_)
                      refine c_seq ?_
                      refine c_seq (c_region ?_)
                      refine wv h (r_assign h rfl) rfl ?_
                      clear h a w; intro a w h
                      refine wnil (c_then ?_)
                      refine c_block ?_
                      refine c_loopX h (X := Nat) (fun i => [(2, .pointer (some ⟨b2, 0, none⟩)), (3, vk), (4, vh), (5, va), (8, .int .i64 ((64 * k : Nat) : Int)), (9, v9), (16, w32 (shaRounds hh W i).a), (17, w32 (shaRounds hh W i).b), (18, w32 (shaRounds hh W i).c), (19, w32 (shaRounds hh W i).d), (20, w32 (shaRounds hh W i).e), (21, w32 (shaRounds hh W i).f), (22, w32 (shaRounds hh W i).g), (23, w32 (shaRounds hh W i).z), (24, .int .i64 (i : Int))])
                        (fun i => OwnL w32 v9 W :: M) (fun i => i ≤ 64) (fun i => 64 - i) 0 (h.keep [2, 3, 4, 5, 8, 9, 16, 17, 18, 19, 20, 21, 22, 23, 24]) (Nat.zero_le _) ?_
                      clear h a w; intro i a w hx h
                      as_aux_lemma =>
                        refine c_seq ?_
                        refine c_seq (c_region ?_)
                        refine wv h (r_move h rfl) rfl ?_
                        clear h a w; intro a w h
                        refine wv h (r_bin h rfl rfl (B.lss_int)) rfl ?_
                        clear h a w; intro a w h
                        refine wnil (c_then ?_)
                        first
                          | refine c_condD h rfl (fun ht7 => ?_) (fun ht7 => ?_)
                          | refine c_condP h rfl (by first | (simp only [Bool.and_eq_true, Bool.or_eq_true, Bool.not_eq_true', decide_eq_true_eq, decide_eq_false_iff_not, ne_eq, Bool.not_eq_eq_eq_not, Bool.not_true, beq_iff_eq, bne_iff_ne]; exact Iff.rfl) | exact Iff.rfl) (fun ht7 => ?_) (fun ht7 => ?_)
                        ·
                          have hrd : shaRounds hh W (i + 1) = shaRound (shaRounds hh W i) (shaK.getD i 0) (W.getD i 0) := rfl
                          generalize shaRounds hh W i = V at h hrd
                          have hkl := shaK_len
                          refine c_skip ?_
                          refine c_then ?_
                          refine c_seq ?_
                          refine c_block ?_
                          refine c_seq (c_draw K.mixed (by kernel_rfl) h ?_)
                          clear h a w; intro a hE
                          refine qv hE (fun w hw => r_move ⟨hE, hw⟩ rfl) rfl ?_
                          clear hE a; intro a hE
                          refine qv hE (fun w hw => r_move ⟨hE, hw⟩ rfl) rfl ?_
                          clear hE a; intro a hE
                          refine q_call hE rfl K.go_ref01_turn (fun w hw => Ret.keeps (ref_turn s w _ 6 (by omega) (by omega) _ hw) (fun _ _ => rfl) (fun _ _ h => h)) rfl ?_
                          clear hE a; intro a hE
                          refine qv hE (fun w hw => r_move ⟨hE, hw⟩ rfl) rfl ?_
                          clear hE a; intro a hE
                          refine q_call hE rfl K.go_ref01_turn (fun w hw => Ret.keeps (ref_turn s w _ 11 (by omega) (by omega) _ hw) (fun _ _ => rfl) (fun _ _ h => h)) rfl ?_
                          clear hE a; intro a hE
                          refine qv hE (fun w hw => r_bin ⟨hE, hw⟩ rfl rfl (B.xor_u32)) rfl ?_
                          clear hE a; intro a hE
                          refine qv hE (fun w hw => r_move ⟨hE, hw⟩ rfl) rfl ?_
                          clear hE a; intro a hE
                          refine q_call hE rfl K.go_ref01_turn (fun w hw => Ret.keeps (ref_turn s w _ 25 (by omega) (by omega) _ hw) (fun _ _ => rfl) (fun _ _ h => h)) rfl ?_
                          clear hE a; intro a hE
                          refine qv hE (fun w hw => r_bin ⟨hE, hw⟩ rfl rfl (B.xor_u32)) rfl ?_
                          clear hE a; intro a hE
                          refine qv hE (fun w hw => r_bin ⟨hE, hw⟩ rfl rfl (B.add_u32)) rfl ?_
                          clear hE a; intro a hE
                          refine qv hE (fun w hw => r_move ⟨hE, hw⟩ rfl) rfl ?_
                          clear hE a; intro a hE
                          refine qv hE (fun w hw => r_move ⟨hE, hw⟩ rfl) rfl ?_
                          clear hE a; intro a hE
                          refine qv hE (fun w hw => r_bin ⟨hE, hw⟩ rfl rfl (B.and_u32)) rfl ?_
                          clear hE a; intro a hE
                          refine qv hE (fun w hw => r_move ⟨hE, hw⟩ rfl) rfl ?_
                          clear hE a; intro a hE
                          refine qv hE (fun w hw => r_bin ⟨hE, hw⟩ rfl rfl (B.sub_u32 (x := 4294967295))) rfl ?_
                          clear hE a; intro a hE
                          rw [sub_full] at hE
                          refine qv hE (fun w hw => r_move ⟨hE, hw⟩ rfl) rfl ?_
                          clear hE a; intro a hE
                          refine qv hE (fun w hw => r_bin ⟨hE, hw⟩ rfl rfl (B.and_u32)) rfl ?_
                          clear hE a; intro a hE
                          refine qv hE (fun w hw => r_bin ⟨hE, hw⟩ rfl rfl (B.xor_u32)) rfl ?_
                          clear hE a; intro a hE
                          refine qv hE (fun w hw => r_bin ⟨hE, hw⟩ rfl rfl (B.add_u32)) rfl ?_
                          clear hE a; intro a hE
                          refine qv hE (fun w hw => r_move ⟨hE, hw⟩ rfl) rfl ?_
                          clear hE a; intro a hE
                          refine qv hE (fun w hw => r_move ⟨hE, hw⟩ rfl) rfl ?_
                          clear hE a; intro a hE
                          refine qv hE (fun w hw => r_elP ⟨hE, hw⟩ rfl rfl K.u_S_uint32 K.sz_uint32 (by first | exact Views.own 0 rfl | exact Views.own 1 rfl | exact Views.own 2 rfl | exact Views.own 3 rfl | exact Views.own 4 rfl | exact Views.own 5 rfl | assumption | exact Views.cons (by assumption) _ | exact Views.cons (Views.cons (by assumption) _) _ | exact Views.cons (Views.cons (Views.cons (by assumption) _) _) _ | exact Views.cons (Views.cons (Views.cons (Views.cons (by assumption) _) _) _) _) (by first | omega | (simp; done)) (by first | omega | (simp only [List.length_cons, List.length_nil]; omega) | (simp; done) | (simp; omega))) rfl ?_
                          clear hE a; intro a hE
                          refine qv hE (fun w hw => r_el32 ⟨hE, hw⟩ rfl K.u_uint32 rfl (by first | exact Views.own 0 rfl | exact Views.own 1 rfl | exact Views.own 2 rfl | exact Views.own 3 rfl | exact Views.own 4 rfl | exact Views.own 5 rfl | assumption | exact Views.cons (by assumption) _ | exact Views.cons (Views.cons (by assumption) _) _ | exact Views.cons (Views.cons (Views.cons (by assumption) _) _) _ | exact Views.cons (Views.cons (Views.cons (Views.cons (by assumption) _) _) _) _) (by first | omega | (simp only [List.length_cons, List.length_nil]; omega) | (simp; done) | (simp; omega))) rfl ?_
                          clear hE a; intro a hE
                          refine qv hE (fun w hw => r_bin ⟨hE, hw⟩ rfl rfl (B.add_u32)) rfl ?_
                          clear hE a; intro a hE
                          refine qv hE (fun w hw => r_move ⟨hE, hw⟩ rfl) rfl ?_
                          clear hE a; intro a hE
                          refine qv hE (fun w hw => r_move ⟨hE, hw⟩ rfl) rfl ?_
                          clear hE a; intro a hE
                          refine qv hE (fun w hw => r_elP ⟨hE, hw⟩ rfl rfl K.u_S_uint32 K.sz_uint32 (by first | exact Views.own 0 rfl | exact Views.own 1 rfl | exact Views.own 2 rfl | exact Views.own 3 rfl | exact Views.own 4 rfl | exact Views.own 5 rfl | assumption | exact Views.cons (by assumption) _ | exact Views.cons (Views.cons (by assumption) _) _ | exact Views.cons (Views.cons (Views.cons (by assumption) _) _) _ | exact Views.cons (Views.cons (Views.cons (Views.cons (by assumption) _) _) _) _) (by first | omega | (simp; done)) (by first | omega | (simp only [List.length_cons, List.length_nil]; omega) | (simp; done) | (simp; omega))) rfl ?_
                          clear hE a; intro a hE
                          refine qv hE (fun w hw => r_el32 ⟨hE, hw⟩ rfl K.u_uint32 rfl (by first | exact Views.own 0 rfl | exact Views.own 1 rfl | exact Views.own 2 rfl | exact Views.own 3 rfl | exact Views.own 4 rfl | exact Views.own 5 rfl | assumption | exact Views.cons (by assumption) _ | exact Views.cons (Views.cons (by assumption) _) _ | exact Views.cons (Views.cons (Views.cons (by assumption) _) _) _ | exact Views.cons (Views.cons (Views.cons (Views.cons (by assumption) _) _) _) _) (by first | omega | (simp only [List.length_cons, List.length_nil]; omega) | (simp; done) | (simp; omega))) rfl ?_
                          clear hE a; intro a hE
                          refine qv hE (fun w hw => r_bin ⟨hE, hw⟩ rfl rfl (B.add_u32)) rfl ?_
                          clear hE a; intro a hE
                          rw [show V.z + (rotr V.e 6 ^^^ rotr V.e 11 ^^^ rotr V.e 25) + (V.e &&& V.f ^^^ ~~~V.e &&& V.g) + shaK.getD i 0 + W.getD i 0 = shaT V (shaK.getD i 0) (W.getD i 0) from rfl] at hE
                          refine qv hE (fun w hw => r_assign ⟨hE, hw⟩ rfl) rfl ?_
                          clear hE a; intro a hE
                          refine qnil hE ?_
                          clear hE a; intro a w h
                          refine c_then ?_
                          refine c_seq (c_region ?_)
                          refine wv h (r_move h rfl) rfl ?_
                          clear h a w; intro a w h
                          refine wl rfl (op_call h rfl K.go_ref01_turn (ref_turn s _ _ 2 (by omega) (by omega) _ h.2) rfl ?_)
                          clear h a w; intro x a w hx h
                          refine wv h (r_move h rfl) rfl ?_
                          clear h a w; intro a w h
                          refine wl rfl (op_call h rfl K.go_ref01_turn (ref_turn s _ _ 13 (by omega) (by omega) _ h.2) rfl ?_)
                          clear h a w; intro x a w hx h
                          refine wv h (r_bin h rfl rfl (B.xor_u32)) rfl ?_
                          clear h a w; intro a w h
                          refine wv h (r_move h rfl) rfl ?_
                          clear h a w; intro a w h
                          refine wl rfl (op_call h rfl K.go_ref01_turn (ref_turn s _ _ 22 (by omega) (by omega) _ h.2) rfl ?_)
                          clear h a w; intro x a w hx h
                          refine wv h (r_bin h rfl rfl (B.xor_u32)) rfl ?_
                          clear h a w; intro a w h
                          refine wv h (r_move h rfl) rfl ?_
                          clear h a w; intro a w h
                          refine wv h (r_move h rfl) rfl ?_
                          clear h a w; intro a w h
                          refine wv h (r_bin h rfl rfl (B.and_u32)) rfl ?_
                          clear h a w; intro a w h
                          refine wv h (r_move h rfl) rfl ?_
                          clear h a w; intro a w h
                          refine wv h (r_move h rfl) rfl ?_
                          clear h a w; intro a w h
                          refine wv h (r_bin h rfl rfl (B.and_u32)) rfl ?_
                          clear h a w; intro a w h
                          refine wv h (r_bin h rfl rfl (B.xor_u32)) rfl ?_
                          clear h a w; intro a w h
                          refine wv h (r_move h rfl) rfl ?_
                          clear h a w; intro a w h
                          refine wv h (r_move h rfl) rfl ?_
                          clear h a w; intro a w h
                          refine wv h (r_bin h rfl rfl (B.and_u32)) rfl ?_
                          clear h a w; intro a w h
                          refine wv h (r_bin h rfl rfl (B.xor_u32)) rfl ?_
                          clear h a w; intro a w h
                          refine wv h (r_bin h rfl rfl (B.add_u32)) rfl ?_
                          clear h a w; intro a w h
                          rw [show (rotr V.a 2 ^^^ rotr V.a 13 ^^^ rotr V.a 22) + (V.a &&& V.b ^^^ V.a &&& V.c ^^^ V.b &&& V.c) = shaU V from rfl] at h
                          refine wv h (r_assign h rfl) rfl ?_
                          clear h a w; intro a w h
                          refine wnil (c_then ?_)
                          refine c_seq (c_region ?_)
                          refine wv h (r_move h rfl) rfl ?_
                          clear h a w; intro a w h
                          refine wv h (r_assign h rfl) rfl ?_
                          clear h a w; intro a w h
                          refine wnil (c_then ?_)
                          refine c_seq (c_region ?_)
                          refine wv h (r_move h rfl) rfl ?_
                          clear h a w; intro a w h
                          refine wv h (r_assign h rfl) rfl ?_
                          clear h a w; intro a w h
                          refine wnil (c_then ?_)
                          refine c_seq (c_region ?_)
                          refine wv h (r_move h rfl) rfl ?_
                          clear h a w; intro a w h
                          refine wv h (r_assign h rfl) rfl ?_
                          clear h a w; intro a w h
                          refine wnil (c_then ?_)
                          refine c_seq (c_region ?_)
                          refine wv h (r_move h rfl) rfl ?_
                          clear h a w; intro a w h
                          refine wv h (r_move h rfl) rfl ?_
                          clear h a w; intro a w h
                          refine wv h (r_bin h rfl rfl (B.add_u32)) rfl ?_
                          clear h a w; intro a w h
                          refine wv h (r_assign h rfl) rfl ?_
                          clear h a w; intro a w h
                          refine wnil (c_then ?_)
                          refine c_seq (c_region ?_)
                          refine wv h (r_move h rfl) rfl ?_
                          clear h a w; intro a w h
                          refine wv h (r_assign h rfl) rfl ?_
                          clear h a w; intro a w h
                          refine wnil (c_then ?_)
                          refine c_seq (c_region ?_)
                          refine wv h (r_move h rfl) rfl ?_
                          clear h a w; intro a w h
                          refine wv h (r_assign h rfl) rfl ?_
                          clear h a w; intro a w h
                          refine wnil (c_then ?_)
                          refine c_seq (c_region ?_)
                          refine wv h (r_move h rfl) rfl ?_
                          clear h a w; intro a w h
                          refine wv h (r_assign h rfl) rfl ?_
                          clear h a w; intro a w h
                          refine wnil (c_then ?_)
                          refine c_region ?_
                          refine wv h (r_move h rfl) rfl ?_
                          clear h a w; intro a w h
                          refine wv h (r_move h rfl) rfl ?_
                          clear h a w; intro a w h
                          refine wv h (r_bin h rfl rfl (B.add_u32)) rfl ?_
                          clear h a w; intro a w h
                          refine wv h (r_assign h rfl) rfl ?_
                          clear h a w; intro a w h
                          refine wnil ?_
                          refine b_normal ?_
                          refine c_then ?_
                          refine c_region ?_
                          refine wv h (r_move h rfl) rfl ?_
                          clear h a w; intro a w h
                          refine wv h (r_bin h rfl rfl (B.add_i64 (by omega) (by omega))) rfl ?_
                          clear h a w; intro a w h
                          refine wv h (r_assign h rfl) rfl ?_
                          clear h a w; intro a w h
                          refine wnil ?_
                          refine ⟨i + 1, ?_, (by show i + 1 ≤ 64; omega), by show 64 - (i + 1) < 64 - i; omega⟩
                          rw [hrd]
                          exact h.keep [2, 3, 4, 5, 8, 9, 16, 17, 18, 19, 20, 21, 22, 23, 24]
                        ·
                          obtain rfl : i = 64 := by omega
                          generalize shaRounds hh W 64 = V at h hblk
                          refine c_exit ?_
                          refine e_then ?_
                          refine e_then ?_
                          refine e_here ?_
                          refine c_then ?_
                          refine c_seq (c_region ?_)
                          refine wv h (r_move h rfl) rfl ?_
                          clear h a w; intro a w h
                          refine wv h (r_move h rfl) rfl ?_
                          clear h a w; intro a w h
                          refine wv h (r_move h rfl) rfl ?_
                          clear h a w; intro a w h
                          refine wv h (r_move h rfl) rfl ?_
                          clear h a w; intro a w h
                          refine wv h (r_move h rfl) rfl ?_
                          clear h a w; intro a w h
                          refine wv h (r_move h rfl) rfl ?_
                          clear h a w; intro a w h
                          refine wv h (r_move h rfl) rfl ?_
                          clear h a w; intro a w h
                          refine wv h (r_move h rfl) rfl ?_
                          clear h a w; intro a w h
                          refine wl rfl (op_buildSlice h K.u_S_uint32 K.sz_uint32 K.z_uint32 rfl rfl rfl rfl rfl (by simp [Value.cells, bv, w32, w64, sv]) rfl ?_)
                          clear h a w; intro b251 a w h
                          obtain ⟨vl, hvl⟩ : ∃ vl, vl = Value.slice (some ⟨b251, 0, none⟩) 8 8 := ⟨_, rfl⟩
                          replace h : St 284 s a w _ (OwnL w32 (.slice (some ⟨b251, 0, none⟩) 8 8) V.lst :: OwnL w32 v9 W :: M) := h.toOwnL V.lst (NF.zero _) rfl rfl rfl
                          rw [← hvl, ← hM] at h
                          clear hvl
                          replace h := h.front 2 rfl
                          replace h : St 284 s a w _ (OwnL w32 vh hh.lst :: OwnL w32 vl V.lst :: OwnL w32 v9 W :: OwnB va pad :: Gk) := h
                          generalize hK0 : (OwnL w32 vl V.lst :: OwnL w32 v9 W :: OwnB va pad :: Gk) = K0 at h
                          have hvl : Views K0 1 vl 8 (V.lst.map w32) := by rw [← hK0]; exact Views.own 0 rfl
                          have hD : ∀ i < 8, ∃ x y, hh.lst[i]? = some x ∧ V.lst[i]? = some y ∧ (shaAdd hh V).lst[i]? = some (x + y) := by
                            intro i hi
                            have : i = 0 ∨ i = 1 ∨ i = 2 ∨ i = 3 ∨ i = 4 ∨ i = 5 ∨ i = 6 ∨ i = 7 := by omega
                            rcases this with rfl | rfl | rfl | rfl | rfl | rfl | rfl | rfl <;> exact ⟨_, _, rfl, rfl, rfl⟩
                          have hvll : V.lst.length = 8 := rfl
                          have hadl : (shaAdd hh V).lst.length = 8 := rfl
                          refine wv h (r_assign h rfl) rfl ?_
                          clear h a w; intro a w h
                          refine wnil (c_then ?_)
                          refine c_seq (c_region ?_)
                          refine wv h (r_assign h rfl) rfl ?_
                          clear h a w; intro a w h
                          rw [show hh.lst = (shaAdd hh V).lst.take 0 ++ hh.lst.drop 0 by simp] at h
                          refine wnil (c_then ?_)
                          refine c_block ?_
                          refine c_loopX h (X := Nat) (fun i => [(2, .pointer (some ⟨b2, 0, none⟩)), (3, vk), (4, vh), (5, va), (8, .int .i64 ((64 * k : Nat) : Int)), (27, vl), (28, .int .i64 (i : Int))])
                            (fun i => OwnL w32 vh ((shaAdd hh V).lst.take i ++ hh.lst.drop i) :: K0) (fun i => i ≤ 8) (fun i => 8 - i) 0 (h.keep [2, 3, 4, 5, 8, 27, 28]) (Nat.zero_le _) ?_
                          clear h a w; intro i a w hx h
                          as_aux_lemma =>
                            refine c_seq ?_
                            refine c_seq (c_region ?_)
                            refine wv h (r_move h rfl) rfl ?_
                            clear h a w; intro a w h
                            refine wv h (r_bin h rfl rfl (B.lss_int)) rfl ?_
                            clear h a w; intro a w h
                            refine wnil (c_then ?_)
                            first
                              | refine c_condD h rfl (fun ht8 => ?_) (fun ht8 => ?_)
                              | refine c_condP h rfl (by first | (simp only [Bool.and_eq_true, Bool.or_eq_true, Bool.not_eq_true', decide_eq_true_eq, decide_eq_false_iff_not, ne_eq, Bool.not_eq_eq_eq_not, Bool.not_true, beq_iff_eq, bne_iff_ne]; exact Iff.rfl) | exact Iff.rfl) (fun ht8 => ?_) (fun ht8 => ?_)
                            ·
                              obtain ⟨x, y, hx1, hx2, hx3⟩ := hD i (by omega)
                              have hov := arr_over (shaAdd hh V).lst hh.lst _ i hx3 rfl
                              have hxx : ((shaAdd hh V).lst.take i ++ hh.lst.drop i).getD i 0 = x := by
                                have hl : ((shaAdd hh V).lst.take i).length = i := by rw [List.length_take]; omega
                                rw [List.getD_eq_getElem?_getD, List.getElem?_append_right (by omega), hl, Nat.sub_self, List.getElem?_drop]; simpa using by rw [hx1]; rfl
                              have hyy : V.lst.getD i 0 = y := by rw [List.getD_eq_getElem?_getD, hx2]; rfl
                              refine c_skip ?_
                              refine c_then ?_
                              refine c_seq ?_
                              refine c_block ?_
                              refine c_tail 10 K.mixed (by kernel_rfl) h ?_
                              clear h a w; intro a w h
                              refine yv h (r_move h rfl) rfl ?_
                              clear h a; intro a h
                              refine yv h (r_move h rfl) rfl ?_
                              clear h a; intro a h
                              refine yv h (r_elP h rfl rfl K.u_S_uint32 K.sz_uint32 (by first | exact Views.own 0 rfl | exact Views.own 1 rfl | exact Views.own 2 rfl | exact Views.own 3 rfl | exact Views.own 4 rfl | exact Views.own 5 rfl | assumption | exact Views.cons (by assumption) _ | exact Views.cons (Views.cons (by assumption) _) _ | exact Views.cons (Views.cons (Views.cons (by assumption) _) _) _ | exact Views.cons (Views.cons (Views.cons (Views.cons (by assumption) _) _) _) _) (by first | omega | (simp; done)) (by first | omega | (simp only [List.length_cons, List.length_nil]; omega) | (simp; done) | (simp; omega))) rfl ?_
                              clear h a; intro a h
                              refine yv h (r_el32 h rfl K.u_uint32 rfl (by first | exact Views.own 0 rfl | exact Views.own 1 rfl | exact Views.own 2 rfl | exact Views.own 3 rfl | exact Views.own 4 rfl | exact Views.own 5 rfl | assumption | exact Views.cons (by assumption) _ | exact Views.cons (Views.cons (by assumption) _) _ | exact Views.cons (Views.cons (Views.cons (by assumption) _) _) _ | exact Views.cons (Views.cons (Views.cons (Views.cons (by assumption) _) _) _) _) (by first | omega | (simp only [List.length_cons, List.length_nil]; omega) | (simp; done) | (simp; omega))) rfl ?_
                              clear h a; intro a h
                              rw [hxx] at h
                              refine yv h (r_move h rfl) rfl ?_
                              clear h a; intro a h
                              refine yv h (r_move h rfl) rfl ?_
                              clear h a; intro a h
                              refine yv h (r_elP h rfl rfl K.u_S_uint32 K.sz_uint32 (by first | exact Views.own 0 rfl | exact Views.own 1 rfl | exact Views.own 2 rfl | exact Views.own 3 rfl | exact Views.own 4 rfl | exact Views.own 5 rfl | assumption | exact Views.cons (by assumption) _ | exact Views.cons (Views.cons (by assumption) _) _ | exact Views.cons (Views.cons (Views.cons (by assumption) _) _) _ | exact Views.cons (Views.cons (Views.cons (Views.cons (by assumption) _) _) _) _) (by first | omega | (simp; done)) (by first | omega | (simp only [List.length_cons, List.length_nil]; omega) | (simp; done) | (simp; omega))) rfl ?_
                              clear h a; intro a h
                              refine yv h (r_el32 h rfl K.u_uint32 rfl (by first | exact Views.own 0 rfl | exact Views.own 1 rfl | exact Views.own 2 rfl | exact Views.own 3 rfl | exact Views.own 4 rfl | exact Views.own 5 rfl | assumption | exact Views.cons (by assumption) _ | exact Views.cons (Views.cons (by assumption) _) _ | exact Views.cons (Views.cons (Views.cons (by assumption) _) _) _ | exact Views.cons (Views.cons (Views.cons (Views.cons (by assumption) _) _) _) _) (by first | omega | (simp only [List.length_cons, List.length_nil]; omega) | (simp; done) | (simp; omega))) rfl ?_
                              clear h a; intro a h
                              rw [hyy] at h
                              refine yv h (r_bin h rfl rfl (B.add_u32)) rfl ?_
                              clear h a; intro a h
                              refine yv h (r_elP h rfl rfl K.u_S_uint32 K.sz_uint32 (by first | exact Views.own 0 rfl | exact Views.own 1 rfl | exact Views.own 2 rfl | exact Views.own 3 rfl | exact Views.own 4 rfl | exact Views.own 5 rfl | assumption | exact Views.cons (by assumption) _ | exact Views.cons (Views.cons (by assumption) _) _ | exact Views.cons (Views.cons (Views.cons (by assumption) _) _) _ | exact Views.cons (Views.cons (Views.cons (Views.cons (by assumption) _) _) _) _) (by first | omega | (simp; done)) (by first | omega | (simp only [List.length_cons, List.length_nil]; omega) | (simp; done) | (simp; omega))) rfl ?_
                              clear h a; intro a h
                              refine ynil ?_
                              first
                                | (refine wl rfl (op_storeL (enc := w32) (fun _ => rfl) h rfl rfl K.sz_uint32 0 rfl (by first | omega | (simp only [List.length_cons, List.length_nil]; omega) | (simp; done) | (simp; omega)) ?_))
                                | (refine wl rfl (op_storeL (enc := w32) (fun _ => rfl) h rfl rfl K.sz_uint32 1 rfl (by first | omega | (simp only [List.length_cons, List.length_nil]; omega) | (simp; done) | (simp; omega)) ?_))
                                | (refine wl rfl (op_storeL (enc := w32) (fun _ => rfl) h rfl rfl K.sz_uint32 2 rfl (by first | omega | (simp only [List.length_cons, List.length_nil]; omega) | (simp; done) | (simp; omega)) ?_))
                                | (refine wl rfl (op_storeL (enc := w32) (fun _ => rfl) h rfl rfl K.sz_uint32 3 rfl (by first | omega | (simp only [List.length_cons, List.length_nil]; omega) | (simp; done) | (simp; omega)) ?_))
                                | (refine wl rfl (op_storeL (enc := w32) (fun _ => rfl) h rfl rfl K.sz_uint32 4 rfl (by first | omega | (simp only [List.length_cons, List.length_nil]; omega) | (simp; done) | (simp; omega)) ?_))
                                | (refine wl rfl (op_storeL (enc := w32) (fun _ => rfl) h rfl rfl K.sz_uint32 5 rfl (by first | omega | (simp only [List.length_cons, List.length_nil]; omega) | (simp; done) | (simp; omega)) ?_))
                              clear h a w; intro a w h
                              (try simp only [List.set_cons_zero, List.set_cons_succ] at h)
                              rw [hov] at h
                              refine wnil ?_
                              refine b_normal ?_
                              refine c_then ?_
                              refine c_region ?_
                              refine wv h (r_move h rfl) rfl ?_
                              clear h a w; intro a w h
                              refine wv h (r_bin h rfl rfl (B.add_i64 (by omega) (by omega))) rfl ?_
                              clear h a w; intro a w h
                              refine wv h (r_assign h rfl) rfl ?_
                              clear h a w; intro a w h
                              refine wnil ?_
                              exact ⟨i + 1, h.keep [2, 3, 4, 5, 8, 27, 28], (by show i + 1 ≤ 8; omega), by show 8 - (i + 1) < 8 - i; omega⟩
                            ·
                              obtain rfl : i = 8 := by omega
                              rw [show (shaAdd hh V).lst.take 8 ++ hh.lst.drop 8 = (shaAdd hh V).lst from rfl, ← hK0, ← hblk] at h
                              replace h := (h.rid 1).rid 1
                              replace h : St 284 s a w _ (OwnL w32 vh (shaBlock hh blk).lst :: OwnB va pad :: Gk) := h
                              refine c_exit ?_
                              refine e_then ?_
                              refine e_then ?_
                              refine e_here ?_
                              refine b_normal ?_
                              refine c_then ?_
                              refine c_region ?_
                              refine wv h (r_move h rfl) rfl ?_
                              clear h a w; intro a w h
                              refine wv h (r_bin h rfl rfl (B.add_i64 (by omega) (by omega))) rfl ?_
                              clear h a w; intro a w h
                              refine wv h (r_assign h rfl) rfl ?_
                              clear h a w; intro a w h
                              refine wnil ?_
                              rw [show ((64 * k : Nat) : Int) + 64 = ((64 * (k + 1) : Nat) : Int) by omega] at h
                              refine ⟨(k + 1, shaBlock hh blk), h.keep [2, 3, 4, 5, 8], ⟨?_, ?_⟩, ?_⟩
                              · show 64 * (k + 1) ≤ pad.length; omega
                              · show shaAll _ _ _ = R; rw [← hst]; exact hx2
                              · show pad.length - 64 * (k + 1) < pad.length - 64 * k; omega
            ·
              have h0 : (pad.drop (64 * k)).length = 0 := by rw [List.length_drop]; omega
              rw [h0] at hx2
              obtain rfl : hh = R := hx2
              have hDl : (hh.lst.flatMap shaBytes).length = 32 := by simp [Sha8.lst, shaBytes]
              have hget := sha_get1 hh
              have hll : hh.lst.length = 8 := rfl
              rw [← hGk] at h
              generalize hDD : hh.lst.flatMap shaBytes = D at *
              refine c_exit ?_
              refine e_then ?_
              refine e_then ?_
              refine e_here ?_
              refine c_then ?_
              refine c_seq (c_region ?_)
              refine wl rfl (op_alloc h K.z_A32_uint8 rfl ?_)
              clear h a w; intro b29 a w h
              rw [show (Value.agg (Array.replicate 32 (Value.int .u8 0))).cells = arr8 (List.replicate 32 0) from (arr8_zero 32).symm] at h
              generalize hH : (OwnL w32 vh hh.lst :: OwnB va pad :: OwnL w32 vk shaK :: Blk b2 (.cells (arr8 (List.replicate 32 0)) t_A32_uint8) :: F) = H at h
              have hvH : Views H 1 vh 8 (hh.lst.map w32) := by rw [← hH]; exact Views.own 0 rfl
              rw [show Blk b29 (Obj.cells (arr8 (List.replicate 32 0)) t_A32_uint8) = Blk b29 (.cells (arr8 (D.take 0 ++ List.replicate (32 - 0) 0)) t_A32_uint8) from rfl] at h
              refine wnil (c_then ?_)
              refine c_seq ?_
              refine c_seq (c_region ?_)
              refine wv h (r_assign h rfl) rfl ?_
              clear h a w; intro a w h
              refine wnil (c_then ?_)
              refine c_block ?_
              refine c_loopX h (X := Nat) (fun i => [(2, .pointer (some ⟨b2, 0, none⟩)), (4, vh), (29, .pointer (some ⟨b29, 0, none⟩)), (30, .int .i64 (i : Int))])
                (fun i => Blk b29 (.cells (arr8 (D.take i ++ List.replicate (32 - i) 0)) t_A32_uint8) :: H) (fun i => i ≤ 32) (fun i => 32 - i) 0 (h.keep [2, 4, 29, 30]) (Nat.zero_le _) ?_
              clear h a w; intro i a w hx h
              as_aux_lemma =>
                refine c_seq ?_
                refine c_seq (c_region ?_)
                refine wv h (r_move h rfl) rfl ?_
                clear h a w; intro a w h
                refine wv h (r_bin h rfl rfl (B.lss_int)) rfl ?_
                clear h a w; intro a w h
                refine wnil (c_then ?_)
                first
                  | refine c_condD h rfl (fun ht9 => ?_) (fun ht9 => ?_)
                  | refine c_condP h rfl (by first | (simp only [Bool.and_eq_true, Bool.or_eq_true, Bool.not_eq_true', decide_eq_true_eq, decide_eq_false_iff_not, ne_eq, Bool.not_eq_eq_eq_not, Bool.not_true, beq_iff_eq, bne_iff_ne]; exact Iff.rfl) | exact Iff.rfl) (fun ht9 => ?_) (fun ht9 => ?_)
                ·
                  have hgi := hget i (by omega)
                  have hfl := arr_fill D 0 _ _ hgi
                  rw [hDl] at hfl
                  refine c_skip ?_
                  refine c_then ?_
                  refine c_seq ?_
                  refine c_block ?_
                  refine c_region ?_
                  refine wv h (r_move h rfl) rfl ?_
                  clear h a w; intro a w h
                  refine wv h (r_move h rfl) rfl ?_
                  clear h a w; intro a w h
                  refine wv h (r_move h rfl) rfl ?_
                  clear h a w; intro a w h
                  refine wv h (r_bin h rfl rfl (B.quo_i64 (by omega) (by omega) (by omega))) rfl ?_
                  clear h a w; intro a w h
                  refine wv h (r_elP h rfl rfl K.u_S_uint32 K.sz_uint32 (by first | exact Views.own 0 rfl | exact Views.own 1 rfl | exact Views.own 2 rfl | exact Views.own 3 rfl | exact Views.own 4 rfl | exact Views.own 5 rfl | assumption | exact Views.cons (by assumption) _ | exact Views.cons (Views.cons (by assumption) _) _ | exact Views.cons (Views.cons (Views.cons (by assumption) _) _) _ | exact Views.cons (Views.cons (Views.cons (Views.cons (by assumption) _) _) _) _) (by first | omega | (simp; done)) (by first | omega | (simp only [List.length_cons, List.length_nil]; omega) | (simp; done) | (simp; omega))) rfl ?_
                  clear h a w; intro a w h
                  refine wv h (r_el32 h rfl K.u_uint32 rfl (by first | exact Views.own 0 rfl | exact Views.own 1 rfl | exact Views.own 2 rfl | exact Views.own 3 rfl | exact Views.own 4 rfl | exact Views.own 5 rfl | assumption | exact Views.cons (by assumption) _ | exact Views.cons (Views.cons (by assumption) _) _ | exact Views.cons (Views.cons (Views.cons (by assumption) _) _) _ | exact Views.cons (Views.cons (Views.cons (Views.cons (by assumption) _) _) _) _) (by first | omega | (simp only [List.length_cons, List.length_nil]; omega) | (simp; done) | (simp; omega))) rfl ?_
                  clear h a w; intro a w h
                  refine wv h (r_move h rfl) rfl ?_
                  clear h a w; intro a w h
                  refine wv h (r_bin h rfl rfl (B.rem_i64 (by omega) (by omega))) rfl ?_
                  clear h a w; intro a w h
                  refine wv h (r_bin h rfl rfl (B.mul_i64 (by omega) (by omega))) rfl ?_
                  clear h a w; intro a w h
                  refine wv h (r_bin h rfl rfl (B.sub_i64 (by omega) (by omega))) rfl ?_
                  clear h a w; intro a w h
                  refine wv h (r_bin h rfl rfl (B.shr_u32 (by omega))) rfl ?_
                  clear h a w; intro a w h
                  refine wv h (r_conv h rfl K.u_uint32 K.u_uint8 (C.u8_u32) ) rfl ?_
                  clear h a w; intro a w h
                  rw [toUInt8_ofNat32, show (24 - 8 * ((i : Int) % 4)).toNat = 24 - 8 * (i % 4) by omega] at h
                  refine wv h (r_arP h rfl rfl K.u_A32_uint8 K.sz_uint8 (by omega) (by first | omega | (simp only [List.length_cons, List.length_nil]; omega) | (simp; done) | (simp; omega))) rfl ?_
                  clear h a w; intro a w h
                  first
                    | (refine wl rfl (op_store8 h rfl rfl K.sz_uint8 0 rfl (by first | omega | (simp only [List.length_cons, List.length_nil]; omega) | (simp; done) | (simp; omega)) ?_))
                    | (refine wl rfl (op_store8 h rfl rfl K.sz_uint8 1 rfl (by first | omega | (simp only [List.length_cons, List.length_nil]; omega) | (simp; done) | (simp; omega)) ?_))
                    | (refine wl rfl (op_store8 h rfl rfl K.sz_uint8 2 rfl (by first | omega | (simp only [List.length_cons, List.length_nil]; omega) | (simp; done) | (simp; omega)) ?_))
                    | (refine wl rfl (op_store8 h rfl rfl K.sz_uint8 3 rfl (by first | omega | (simp only [List.length_cons, List.length_nil]; omega) | (simp; done) | (simp; omega)) ?_))
                    | (refine wl rfl (op_store8 h rfl rfl K.sz_uint8 4 rfl (by first | omega | (simp only [List.length_cons, List.length_nil]; omega) | (simp; done) | (simp; omega)) ?_))
                    | (refine wl rfl (op_store8 h rfl rfl K.sz_uint8 5 rfl (by first | omega | (simp only [List.length_cons, List.length_nil]; omega) | (simp; done) | (simp; omega)) ?_))
                  clear h a w; intro a w h
                  (try simp only [List.set_cons_zero, List.set_cons_succ] at h)
                  rw [hfl] at h
                  refine wnil ?_
                  refine b_normal ?_
                  refine c_then ?_
                  refine c_region ?_
                  refine wv h (r_move h rfl) rfl ?_
                  clear h a w; intro a w h
                  refine wv h (r_bin h rfl rfl (B.add_i64 (by omega) (by omega))) rfl ?_
                  clear h a w; intro a w h
                  refine wv h (r_assign h rfl) rfl ?_
                  clear h a w; intro a w h
                  refine wnil ?_
                  exact ⟨i + 1, h.keep [2, 4, 29, 30], (by show i + 1 ≤ 32; omega), by show 32 - (i + 1) < 32 - i; omega⟩
                ·
                  obtain rfl : i = 32 := by omega
                  rw [← hH, show D.take 32 ++ List.replicate (32 - 32) (0 : UInt8) = sha p by rw [hsha, List.take_of_length_le (by omega)]; simp] at h
                  refine c_exit ?_
                  refine e_then ?_
                  refine e_then ?_
                  refine e_here ?_
                  refine c_then ?_
                  refine c_seq (c_region ?_)
                  first
                    | (refine wv h (r_loadA8 h rfl K.u_A32_uint8 rfl K.sz_A32_uint8 0 rfl (by first | rfl | assumption | (simp; done) | (simp; omega) | omega)) rfl ?_)
                    | (refine wv h (r_loadA8 h rfl K.u_A32_uint8 rfl K.sz_A32_uint8 1 rfl (by first | rfl | assumption | (simp; done) | (simp; omega) | omega)) rfl ?_)
                    | (refine wv h (r_loadA8 h rfl K.u_A32_uint8 rfl K.sz_A32_uint8 2 rfl (by first | rfl | assumption | (simp; done) | (simp; omega) | omega)) rfl ?_)
                    | (refine wv h (r_loadA8 h rfl K.u_A32_uint8 rfl K.sz_A32_uint8 3 rfl (by first | rfl | assumption | (simp; done) | (simp; omega) | omega)) rfl ?_)
                    | (refine wv h (r_loadA8 h rfl K.u_A32_uint8 rfl K.sz_A32_uint8 4 rfl (by first | rfl | assumption | (simp; done) | (simp; omega) | omega)) rfl ?_)
                    | (refine wv h (r_loadA8 h rfl K.u_A32_uint8 rfl K.sz_A32_uint8 5 rfl (by first | rfl | assumption | (simp; done) | (simp; omega) | omega)) rfl ?_)
                    | (refine wv h (r_loadCA h rfl K.u_A32_uint8 rfl K.sz_A32_uint8 (by assumption) (by first | rfl | assumption | (simp; done) | (simp; omega) | omega)) rfl ?_)
                  clear h a w; intro a w h
                  refine wl rfl (op_storeA8 h rfl rfl K.sz_A32_uint8 (sha_len p) 4 rfl rfl ?_)
                  clear h a w; intro a w h
                  simp only [List.set_cons_zero, List.set_cons_succ] at h
                  refine wnil (c_then ?_)
                  refine c_ret ?_
                  exact retc h rfl rfl K.u_A32_uint8 rfl K.sz_A32_uint8 4 rfl (by rw [arr8_size, sha_len]) ⟨(), rfl, h.2.drop 5, trivial⟩
end Go.Proofs.K
