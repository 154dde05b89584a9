/- What PackErrs rests on, part 6 of 6: the small library for walks, contracts of functions, plain laws. No statement is proved here. -/
import Derived.Test.YtfhlbfalgdipiaaDoorPackErrsZ5
set_option linter.unusedVariables false
set_option linter.unusedSimpArgs false
set_option maxRecDepth 10000
set_option maxHeartbeats 2000000
/- The laws of layer 16, walked: PackErrs. -/
namespace Go.Sl
theorem fourN_inj {u v : UInt32} (h : fourN u = fourN v) : u = v := by
  have := congrArg leN h
  rw [leN_four, leN_four] at this
  exact UInt32.toNat_inj.1 this
theorem ofInt_nat8 (i : Nat) : UInt8.ofInt (i : Int) = UInt8.ofNat i := by
  apply UInt8.toNat_inj.1
  simp [UInt8.ofInt]; omega
theorem xor_self8 {x t : UInt8} (h : x ^^^ t = x) : t = 0 := by
  have := congrArg (x ^^^ ·) h
  simpa [← UInt8.xor_assoc] using this
theorem set_ne {l : List UInt8} {k : Nat} {t : UInt8} (hk : k < l.length) (ht : t ≠ 0) : l.set k (l.getD k 0 ^^^ t) ≠ l := by
  intro e
  have := congrArg (fun l : List UInt8 => l[k]?) e
  simp only [List.getElem?_set_self hk] at this
  rw [List.getElem?_eq_getElem hk] at this
  have h2 := Option.some.inj this
  rw [List.getD_eq_getElem?_getD, List.getElem?_eq_getElem hk] at h2
  exact ht (xor_self8 h2)
theorem seal_turned {b : List UInt8} {k : Nat} {t : UInt8} (hk : k < (sealP b).length) (ht : t ≠ 0) : ¬ sumOk ((sealP b).set k ((sealP b).getD k 0 ^^^ t)) := by
  have hl := (seal_back b).1
  have h4 : (fourN (crcN b)).length = 4 := rfl
  unfold sumOk
  rw [List.length_set, hl, Nat.add_sub_cancel]
  by_cases hb : k < b.length
  · have hg : (sealP b).getD k 0 = b.getD k 0 := by
      rw [sealP, List.getD_eq_getElem?_getD, List.getElem?_append_left hb, List.getD_eq_getElem?_getD]
    have e : (sealP b).set k ((sealP b).getD k 0 ^^^ t) = b.set k (b.getD k 0 ^^^ t) ++ fourN (crcN b) := by
      rw [hg, sealP, List.set_append_left _ _ hb]
    have hl2 : (b.set k (b.getD k 0 ^^^ t)).length = b.length := List.length_set
    rw [e, List.take_left' hl2, List.drop_left' hl2]
    intro q
    have q2 := fourN_inj q
    have e1 : b = b.take k ++ b.getD k 0 :: b.drop (k + 1) := by
      rw [List.getD_eq_getElem?_getD, List.getElem?_eq_getElem hb, Option.getD_some, ← List.drop_eq_getElem_cons hb, List.take_append_drop]
    have e2 : b.set k (b.getD k 0 ^^^ t) = b.take k ++ (b.getD k 0 ^^^ t) :: b.drop (k + 1) := by
      rw [List.set_eq_take_append_cons_drop, if_pos hb]
    rw [e2] at q2
    conv at q2 => rhs; rw [e1]
    exact ht (xor_self8 (crcN_turn q2))
  · have hg : (sealP b).getD k 0 = (fourN (crcN b)).getD (k - b.length) 0 := by
      rw [sealP, List.getD_eq_getElem?_getD, List.getElem?_append_right (by omega), List.getD_eq_getElem?_getD]
    rw [hg, sealP, List.set_append_right _ _ (by omega), List.take_left' rfl, List.drop_left' rfl]
    exact fun q => set_ne (l := fourN (crcN b)) (by omega) ht q.symm
theorem two_apart {ys : List SlV} {k : Nat} (hk : k ≤ 70) (h : ys.map (·.p) = (List.range k).map two) : srtd ys = isort (ys.map itm) := by
  refine srtd_apart ?_
  have e : (ys.map fun x => keyO x.p) = (List.range k).map fun i => keyO (two i) := by
    have := congrArg (List.map keyO) h
    rw [List.map_map, List.map_map] at this
    exact this
  rw [e]
  refine List.Pairwise.sublist (List.Sublist.map _ ?_) keys_apart
  rw [show List.range k = (List.range 70).take k by rw [List.take_range]; congr 1; omega]
  exact List.take_sublist _ _
theorem encP_one (p : List UInt8) : (encP [p]).isSome = decide (0 < p.length ∧ p.length ≤ 900) := by
  by_cases h : OkP p
  · rw [encP_tail (ps := [p]) (fun q hq => by simp at hq; subst hq; exact h) (by simp)]
    unfold OkP at h; simp [h]
  · cases q : encP [p] with
    | none => unfold OkP at h; simp [h]
    | some b =>
      rw [encP, if_neg (by simp)] at q
      obtain ⟨c, hc, _⟩ := Option.map_eq_some_iff.1 q
      exact absurd (encG_ok _ _ _ _ _ hc p (by simp)) h
end Go.Sl
namespace Go.Proofs.K
open Go.Sl
attribute [local irreducible] Go.Sl.Own Go.Sl.Blk Go.Sl.Sep Go.Sl.Ex Go.Sl.Fact
theorem law16_PackErrs (s w : World) (n : UInt8) (size at_ : UInt16) (turn : UInt8) (F : List HItem) (hT : HasParts F) (hF : HasFirst F) (hC : HasLines F) (hs : Sat s w F) :
    Calls P n_law16_PackErrs #[bv n, w16 size, w16 at_, bv turn] w (Ret s (fun _ : Unit => .bool true) (fun _ => F) (fun _ => True)) := by
  obtain ⟨k, hk⟩ : ∃ k : Nat, k = (n % 70).toNat := ⟨_, rfl⟩
  have hk70 : k < 70 := by rw [hk, UInt8.toNat_mod]; exact Nat.mod_lt _ (by decide)
  obtain ⟨zn, hzn⟩ : ∃ z : Nat, z = (size % 1000).toNat := ⟨_, rfl⟩
  have hz1000 : zn < 1000 := by rw [hzn, UInt16.toNat_mod]; exact Nat.mod_lt _ (by decide)
  refine enter K.fn_law16_PackErrs rfl K.nt_law16_PackErrs rfl hs ?_
  clear hs w; intro a w h
  refine c_seq (c_region ?_)
  refine wv h (r_assign h rfl) rfl ?_
  clear h a w; intro a w h
  refine wnil (c_then ?_)
  refine c_seq ?_
  refine c_seq (c_region ?_)
  refine wl rfl (op_call h rfl K.go_law16_awake (law16_awake s _ _ hT hF hC h.2) rfl ?_)
  clear h a w; intro z21 a w hz21 h
  (simp only [List.set_cons_zero, List.set_cons_succ] at h)
  refine wv h (r_not h rfl) rfl ?_
  clear h a w; intro a w h
  refine wnil (c_then ?_)
  refine c_condP (p := False) h rfl (by simp) (fun ht1 => ?_) (fun ht1 => ?_)
  ·
   exact ht1.elim
  ·
   refine c_skip ?_
   refine c_then ?_
   refine c_seq (c_region ?_)
   refine wv h (r_move h rfl) rfl ?_
   clear h a w; intro a w h
   refine wv h (r_bin h rfl rfl (B.rem_u8 (y := 70) (by decide))) rfl ?_
   clear h a w; intro a w h
   refine wv h (r_conv h rfl K.u_uint8 K.u_int (C.i64_u8) ) rfl ?_
   clear h a w; intro a w h
   rw [← hk] at h
   refine wv h (r_assign h rfl) rfl ?_
   clear h a w; intro a w h
   refine wnil (c_then ?_)
   refine c_seq (c_region ?_)
   refine wv h (r_assign h rfl) rfl ?_
   clear h a w; intro a w h
   refine wnil (c_then ?_)
   refine c_seq ?_
   refine c_seq (c_region ?_)
   refine wv h (r_assign h rfl) rfl ?_
   clear h a w; intro a w h
   refine wnil (c_then ?_)
   refine c_block ?_
   replace h : St _ _ _ _ _ (OwnM 1 cellsS (.slice none 0 0) [] :: BytI [] :: F) := St.addNilM (size := 1) (cells := cellsS) ⟨h.1, satBytNil h.2⟩
   refine c_loop (X := Nat × Value × List SlV) (fun z => [(1, w16 size), (2, w16 at_), (3, bv turn), (9, .int .i64 (k : Int)), (10, z.2.1), (11, .int .i64 (z.1 : Int))]) (fun z => OwnM 1 cellsS z.2.1 z.2.2 :: BytI z.2.2 :: F)
     (fun z => z.1 ≤ k ∧ z.2.2.map (·.p) = (List.range z.1).map two) (fun z => k - z.1) (0, .slice none 0 0, []) (h.keep [1, 2, 3, 9, 10, 11]) ⟨Nat.zero_le _, rfl⟩ ?_
   clear h a w; intro z a w hz h
   obtain ⟨i, v10, ys⟩ := z
   obtain ⟨z1, z2⟩ := hz
   simp only at z1 z2 h
   have hyl : ys.length = i := by simpa using congrArg List.length z2
   as_aux_lemma =>
    refine c_seq ?_
    refine c_seq (c_region ?_)
    refine wv h (r_move h rfl) rfl ?_
    clear h a w; intro a w h
    refine wv h (r_move h rfl) rfl ?_
    clear h a w; intro a w h
    refine wv h (r_bin h rfl rfl (B.lss_int)) rfl ?_
    clear h a w; intro a w h
    refine wnil (c_then ?_)
    refine c_condP (p := i < k) h rfl (by simp) (fun ht2 => ?_) (fun ht2 => ?_)
    ·
     refine c_skip ?_
     refine c_then ?_
     refine c_seq ?_
     refine c_block ?_
     refine c_region ?_
     refine wv h (r_move h rfl) rfl ?_
     clear h a w; intro a w h
     refine wv h (r_move h rfl) rfl ?_
     clear h a w; intro a w h
     refine wv h (r_conv h rfl K.u_int K.u_uint8 (C.u8_i64) ) rfl ?_
     clear h a w; intro a w h
     rw [ofInt_nat8] at h
     refine wl rfl (op_buildSlice h K.u_S_uint8 K.sz_uint8 K.z_uint8 rfl rfl rfl rfl rfl (by simp [Value.cells, bv, w32, w64, sv]) rfl ?_)
     clear h a w; intro b34 a w h
     replace h := h.toOwnb (two i) (NF.zero _) rfl rfl
     obtain ⟨u, hu⟩ : ∃ x : SlV, x = ⟨some ⟨b34, 0, none⟩, 2, 2, two i⟩ := ⟨_, rfl⟩
     have huv : u.v = .slice (some ⟨b34, 0, none⟩) 2 2 := by rw [hu]
     have hup : u.p = two i := by rw [hu]
     rw [show (two i).length = 2 from rfl, ← huv, ← hup] at h
     refine wl rfl (op_buildO h K.u_S_S_uint8 K.sz_S_uint8 K.z_S_uint8 rfl rfl rfl rfl (by simp only [List.mem_cons, List.not_mem_nil, or_false, forall_eq_or_imp, forall_eq]; (repeat' apply And.intro) <;> rfl) rfl ?_)
     clear h a w; intro b35 a w h
     refine wl rfl (op_appendR1 (cells := cellsS) (u := u) h rfl rfl K.u_S_S_uint8 K.sz_S_uint8 K.z_S_uint8 rfl rfl 1 rfl (by omega) rfl ?_)
     clear h a w; intro v36 a w h
     simp only [List.set_cons_succ, List.set_cons_zero] at h
     refine wv h (r_assign h rfl) rfl ?_
     clear h a w; intro a w h
     refine wnil ?_
     refine b_normal ?_
     refine c_then ?_
     refine c_region ?_
     refine wv h (r_move h rfl) rfl ?_
     clear h a w; intro a w h
     refine wv h (r_bin h rfl rfl (B.add_i64 (by omega) (by omega))) rfl ?_
     clear h a w; intro a w h
     refine wv h (r_assign h rfl) rfl ?_
     clear h a w; intro a w h
     refine wnil ?_
     replace h := h.mem (fun q => ((satBytMore (x := u) (q.front 2 rfl)).front 1 rfl))
     exact ⟨(i + 1, v36, ys ++ [u]), h.keep [1, 2, 3, 9, 10, 11], ⟨ht2, by simp only [List.map_append, List.map_cons, List.map_nil, z2, hup, List.range_succ]⟩, by simp only; omega⟩
    ·
     obtain rfl : i = k := by omega
     have hap := two_apart (by omega) z2
     have hok : ∀ y ∈ ys, OkP y.p := fun y hy => by
       have : y.p ∈ ys.map (·.p) := List.mem_map_of_mem hy
       rw [z2] at this
       obtain ⟨j, _, e⟩ := List.mem_map.1 this
       rw [← e]; unfold OkP two; simp
     have hbl : (bytesI (srtd ys)).length = i := by rw [hap, bytesI, List.length_map, isort_len, List.length_map, hyl]
     obtain ⟨oe, hoe⟩ : ∃ o, o = encP (bytesI (srtd ys)) := ⟨_, rfl⟩
     obtain ⟨A, hA⟩ : ∃ A : Int, A = if oe.isSome then 0 else 1 := ⟨_, rfl⟩
     have hA1 : (i ≤ 64 ∧ A = 0 ∧ oe = some (sealP (packP ys))) ∨ (64 < i ∧ A = 1) := by
       rcases Nat.lt_or_ge 64 i with q | q
       · have e0 : encP (bytesI (srtd ys)) = none := by rw [encP]; exact if_pos (by omega)
         exact .inr ⟨q, by rw [hA, hoe, e0]; rfl⟩
       · have := encP_pack hok (by omega)
         exact .inl ⟨q, by rw [hA, hoe, this]; rfl, by rw [hoe, this]⟩
     refine c_exit ?_
     refine e_then ?_
     refine e_then ?_
     refine e_here ?_
     refine c_then ?_
     refine c_seq (c_region ?_)
     refine wv h (r_move h rfl) rfl ?_
     clear h a w; intro a w h
     refine wl rfl (op_call h rfl K.go_pack_Encode (pack_Encode s _ v10 ys _ ((hT.cons _).cons _) ((hF.cons _).cons _) ((hC.cons _).cons _) (Views.own 0 rfl) (fun x hx => ⟨BytI.view 1 rfl x hx, by have := (hok x hx).2; omega⟩) (by omega) h.2) rfl ?_)
     clear h a w; intro v39 a w hz39 h
     rw [← hoe, ← hA] at h
     refine wv h (r_move h rfl) rfl ?_
     clear h a w; intro a w h
     refine wv h (r_extractN h rfl rfl) rfl ?_
     clear h a w; intro a w h
     refine wv h (r_extractN h rfl rfl) rfl ?_
     clear h a w; intro a w h
     refine wv h (r_assign h rfl) rfl ?_
     clear h a w; intro a w h
     refine wv h (r_assign h rfl) rfl ?_
     clear h a w; intro a w h
     refine wnil (c_then ?_)
     refine c_seq (c_region ?_)
     refine wv h (r_move h rfl) rfl ?_
     clear h a w; intro a w h
     refine wv h (r_bin h rfl rfl (B.rem_u16 (y := 1000) (by decide))) rfl ?_
     clear h a w; intro a w h
     refine wv h (r_conv h rfl K.u_uint16 K.u_int (C.i64_u16) ) rfl ?_
     clear h a w; intro a w h
     rw [← hzn] at h
     refine wl rfl (op_mkB h K.u_S_uint8 K.sz_uint8 K.z_uint8 rfl rfl (by omega) (by omega) (by omega) (by omega) rfl rfl ?_)
     clear h a w; intro v46 a w h
     obtain ⟨zb, hzb⟩ : ∃ z : List UInt8, z = List.replicate zn 0 := ⟨_, rfl⟩
     have hzl : zb.length = zn := by rw [hzb, List.length_replicate]
     rw [← hzb] at h
     obtain ⟨A0, cap, hpv, _⟩ := (Views.own 0 rfl : ViewsB (OwnB v46 zb :: _) v46 zb).shape h.2
     obtain ⟨u, hu⟩ : ∃ x : SlV, x = ⟨A0, zb.length, cap, zb⟩ := ⟨_, rfl⟩
     have huv : u.v = v46 := by rw [hu, hpv]
     have hup : u.p = zb := by rw [hu]
     obtain ⟨oz, hoz⟩ : ∃ o, o = encP (bytesI (srtd [u])) := ⟨_, rfl⟩
     obtain ⟨Z, hZ⟩ : ∃ Z : Int, Z = if oz.isSome then 0 else 1 := ⟨_, rfl⟩
     have hZ1 : (0 < zn ∧ zn ≤ 900 ∧ Z = 0) ∨ (¬ (0 < zn ∧ zn ≤ 900) ∧ Z = 1) := by
       have e := encP_one zb
       rw [hzl] at e
       rw [srtd_one, hup] at hoz
       rw [← hoz] at e
       by_cases q : 0 < zn ∧ zn ≤ 900
       · exact .inl ⟨q.1, q.2, by rw [hZ, e, decide_eq_true q]; rfl⟩
       · exact .inr ⟨q, by rw [hZ, e, decide_eq_false q]; rfl⟩
     refine wl rfl (op_buildO h K.u_S_S_uint8 K.sz_S_uint8 K.z_S_uint8 rfl rfl rfl rfl (by simp only [List.mem_cons, List.not_mem_nil, or_false, forall_eq_or_imp, forall_eq]; (repeat' apply And.intro) <;> exact Views.oneCell (Views.own 0 rfl) h.2) rfl ?_)
     clear h a w; intro b47 a w h
     refine wl rfl (op_call h rfl K.go_pack_Encode (pack_Encode s _ _ [u] _ (((((hT.cons _).cons _).cons _).cons _).cons _) (((((hF.cons _).cons _).cons _).cons _).cons _) (((((hC.cons _).cons _).cons _).cons _).cons _) (by rw [flatS [u], List.map_cons, List.map_nil, huv]; exact Views.blk 0 rfl rfl rfl rfl rfl) (fun y hy => by simp only [List.mem_singleton] at hy; subst hy; rw [huv, hup]; exact ⟨Views.own 1 rfl, by omega⟩) (by simp) h.2) rfl ?_)
     clear h a w; intro v48 a w hz48 h
     rw [← hoz, ← hZ] at h
     refine wv h (r_move h rfl) rfl ?_
     clear h a w; intro a w h
     refine wv h (r_extractN h rfl rfl) rfl ?_
     clear h a w; intro a w h
     refine wv h (r_extractN h rfl rfl) rfl ?_
     clear h a w; intro a w h
     refine wv h (r_assign h rfl) rfl ?_
     clear h a w; intro a w h
     refine wv h (r_assign h rfl) rfl ?_
     clear h a w; intro a w h
     refine wnil (c_then ?_)
     refine c_seq (c_region ?_)
     refine wv h (r_move h rfl) rfl ?_
     clear h a w; intro a w h
     refine wv h (r_bin h rfl rfl (B.rem_u16 (y := 1000) (by decide))) rfl ?_
     clear h a w; intro a w h
     refine wv h (r_conv h rfl K.u_uint16 K.u_int (C.i64_u16) ) rfl ?_
     clear h a w; intro a w h
     rw [← hzn] at h
     refine wv h (r_assign h rfl) rfl ?_
     clear h a w; intro a w h
     refine wnil (c_then ?_)
     refine c_seq ?_
     refine c_seq (c_region ?_)
     refine wv h (r_move h rfl) rfl ?_
     clear h a w; intro a w h
     refine wv h (r_bin h rfl rfl (B.eql_int)) rfl ?_
     clear h a w; intro a w h
     refine wv h (r_move h rfl) rfl ?_
     clear h a w; intro a w h
     refine wv h (r_bin h rfl rfl (B.leq_int)) rfl ?_
     clear h a w; intro a w h
     refine wv h (r_boolne h K.u_bool rfl rfl) rfl ?_
     clear h a w; intro a w h
     refine wv h (r_move h rfl) rfl ?_
     clear h a w; intro a w h
     refine wvG h (by exact .f rfl) (fun hg => by (have hg2 := hg; (simp only [Bool.and_eq_true, Bool.or_eq_true, Bool.not_eq_true', decide_eq_true_eq, decide_eq_false_iff_not] at hg2)); exact r_move h rfl) rfl ?_
     clear h a w; intro a w h
     refine wvG h (by exact .f rfl) (fun hg => by (simp only [↓gval_on hg, ↓gval_and hg] at h); (have hg2 := hg; (simp only [Bool.and_eq_true, Bool.or_eq_true, Bool.not_eq_true', decide_eq_true_eq, decide_eq_false_iff_not] at hg2)); exact r_bin h rfl rfl (B.neq_int)) rfl ?_
     clear h a w; intro a w h
     refine wvG h (by exact .f rfl) (fun hg => by (simp only [↓gval_on hg, ↓gval_and hg] at h); (have hg2 := hg; (simp only [Bool.and_eq_true, Bool.or_eq_true, Bool.not_eq_true', decide_eq_true_eq, decide_eq_false_iff_not] at hg2)); exact r_move h rfl) rfl ?_
     clear h a w; intro a w h
     refine wvG h (by exact .gt rfl) (fun hg => by (have hg2 := hg; (simp only [Bool.and_eq_true, Bool.or_eq_true, Bool.not_eq_true', decide_eq_true_eq, decide_eq_false_iff_not] at hg2)); exact r_move h rfl) rfl ?_
     clear h a w; intro a w h
     refine wvG h (by exact .gt rfl) (fun hg => by (simp only [↓gval_on hg, ↓gval_and hg] at h); (have hg2 := hg; (simp only [Bool.and_eq_true, Bool.or_eq_true, Bool.not_eq_true', decide_eq_true_eq, decide_eq_false_iff_not] at hg2)); exact r_bin h rfl rfl (B.neq_int)) rfl ?_
     clear h a w; intro a w h
     refine wvG h (by exact .f rfl) (fun hg => by (simp only [↓gval_on hg, ↓gval_and hg] at h); (have hg2 := hg; (simp only [Bool.and_eq_true, Bool.or_eq_true, Bool.not_eq_true', decide_eq_true_eq, decide_eq_false_iff_not] at hg2)); exact r_pickA h rfl rfl rfl) rfl ?_
     clear h a w; intro a w h
     refine wv h (r_pickO h rfl rfl rfl) rfl ?_
     clear h a w; intro a w h
     refine wv h (r_move h rfl) rfl ?_
     clear h a w; intro a w h
     refine wvG h (by exact .f rfl) (fun hg => by (have hg2 := hg; (simp only [Bool.and_eq_true, Bool.or_eq_true, Bool.not_eq_true', decide_eq_true_eq, decide_eq_false_iff_not] at hg2)); exact r_move h rfl) rfl ?_
     clear h a w; intro a w h
     refine wvG h (by exact .f rfl) (fun hg => by (simp only [↓gval_on hg, ↓gval_and hg] at h); (have hg2 := hg; (simp only [Bool.and_eq_true, Bool.or_eq_true, Bool.not_eq_true', decide_eq_true_eq, decide_eq_false_iff_not] at hg2)); exact r_bin h rfl rfl (B.eql_int)) rfl ?_
     clear h a w; intro a w h
     refine wvG h (by exact .f rfl) (fun hg => by (simp only [↓gval_on hg, ↓gval_and hg] at h); (have hg2 := hg; (simp only [Bool.and_eq_true, Bool.or_eq_true, Bool.not_eq_true', decide_eq_true_eq, decide_eq_false_iff_not] at hg2)); exact r_move h rfl) rfl ?_
     clear h a w; intro a w h
     refine wvG h (by exact .f rfl) (fun hg => by (simp only [↓gval_on hg, ↓gval_and hg] at h); (have hg2 := hg; (simp only [Bool.and_eq_true, Bool.or_eq_true, Bool.not_eq_true', decide_eq_true_eq, decide_eq_false_iff_not] at hg2)); exact r_bin h rfl rfl (B.gtr_int)) rfl ?_
     clear h a w; intro a w h
     refine wvG h (by exact .f rfl) (fun hg => by (simp only [↓gval_on hg, ↓gval_and hg] at h); (have hg2 := hg; (simp only [Bool.and_eq_true, Bool.or_eq_true, Bool.not_eq_true', decide_eq_true_eq, decide_eq_false_iff_not] at hg2)); exact r_move h rfl) rfl ?_
     clear h a w; intro a w h
     refine wvG h (by exact .gt rfl) (fun hg => by (have hg2 := hg; (simp only [Bool.and_eq_true, Bool.or_eq_true, Bool.not_eq_true', decide_eq_true_eq, decide_eq_false_iff_not] at hg2)); exact r_move h rfl) rfl ?_
     clear h a w; intro a w h
     refine wvG h (by exact .gt rfl) (fun hg => by (simp only [↓gval_on hg, ↓gval_and hg] at h); (have hg2 := hg; (simp only [Bool.and_eq_true, Bool.or_eq_true, Bool.not_eq_true', decide_eq_true_eq, decide_eq_false_iff_not] at hg2)); exact r_bin h rfl rfl (B.leq_int)) rfl ?_
     clear h a w; intro a w h
     refine wvG h (by exact .f rfl) (fun hg => by (simp only [↓gval_on hg, ↓gval_and hg] at h); (have hg2 := hg; (simp only [Bool.and_eq_true, Bool.or_eq_true, Bool.not_eq_true', decide_eq_true_eq, decide_eq_false_iff_not] at hg2)); exact r_pickA h rfl rfl rfl) rfl ?_
     clear h a w; intro a w h
     refine wvG h (by exact .f rfl) (fun hg => by (simp only [↓gval_on hg, ↓gval_and hg] at h); (have hg2 := hg; (simp only [Bool.and_eq_true, Bool.or_eq_true, Bool.not_eq_true', decide_eq_true_eq, decide_eq_false_iff_not] at hg2)); exact r_boolne h K.u_bool rfl rfl) rfl ?_
     clear h a w; intro a w h
     refine wv h (r_pickO h rfl rfl rfl) rfl ?_
     clear h a w; intro a w h
     refine wv h (r_move h rfl) rfl ?_
     clear h a w; intro a w h
     refine wvG h (by exact .f rfl) (fun hg => by (have hg2 := hg; (simp only [Bool.and_eq_true, Bool.or_eq_true, Bool.not_eq_true', decide_eq_true_eq, decide_eq_false_iff_not] at hg2)); exact r_move h rfl) rfl ?_
     clear h a w; intro a w h
     refine wvG h (by exact .f rfl) (fun hg => by (simp only [↓gval_on hg, ↓gval_and hg] at h); (have hg2 := hg; (simp only [Bool.and_eq_true, Bool.or_eq_true, Bool.not_eq_true', decide_eq_true_eq, decide_eq_false_iff_not] at hg2)); exact r_bin h rfl rfl (B.neq_int)) rfl ?_
     clear h a w; intro a w h
     refine wvG h (by exact .f rfl) (fun hg => by (simp only [↓gval_on hg, ↓gval_and hg] at h); (have hg2 := hg; (simp only [Bool.and_eq_true, Bool.or_eq_true, Bool.not_eq_true', decide_eq_true_eq, decide_eq_false_iff_not] at hg2)); exact r_move h rfl) rfl ?_
     clear h a w; intro a w h
     refine wvG h (by exact .gt rfl) (fun hg => by (have hg2 := hg; (simp only [Bool.and_eq_true, Bool.or_eq_true, Bool.not_eq_true', decide_eq_true_eq, decide_eq_false_iff_not] at hg2)); exact r_move h rfl) rfl ?_
     clear h a w; intro a w h
     refine wvG h (by exact .gt rfl) (fun hg => by (simp only [↓gval_on hg, ↓gval_and hg] at h); (have hg2 := hg; (simp only [Bool.and_eq_true, Bool.or_eq_true, Bool.not_eq_true', decide_eq_true_eq, decide_eq_false_iff_not] at hg2)); exact r_bin h rfl rfl (B.neq_int)) rfl ?_
     clear h a w; intro a w h
     refine wvG h (by exact .f rfl) (fun hg => by (simp only [↓gval_on hg, ↓gval_and hg] at h); (have hg2 := hg; (simp only [Bool.and_eq_true, Bool.or_eq_true, Bool.not_eq_true', decide_eq_true_eq, decide_eq_false_iff_not] at hg2)); exact r_pickA h rfl rfl rfl) rfl ?_
     clear h a w; intro a w h
     refine wv h (r_pickO h rfl rfl rfl) rfl ?_
     clear h a w; intro a w h
     refine wnil (c_then ?_)
     refine c_condP (p := False) h rfl (by rcases hA1 with ⟨q1, rfl, _⟩ | ⟨q1, rfl⟩ <;> rcases hZ1 with ⟨q2, q3, rfl⟩ | ⟨q2, rfl⟩ <;> simp <;> omega) (fun ht3 => ?_) (fun ht3 => ?_)
     ·
      exact ht3.elim
     ·
      replace h : St _ _ _ _ _ (OwnB v39 (oe.getD []) :: F) := ⟨h.1, (((h.2.drop 3).front 1 rfl).tail.front 1 rfl).tail⟩
      refine c_skip ?_
      refine c_then ?_
      refine c_seq (c_region ?_)
      refine wl rfl (op_call h rfl K.go_pack_Decode (pack_Decode s _ (.slice none 0 0) [] _ (hT.cons _) (hF.cons _) (hC.cons _) (ViewsB.nil _) (by simp) h.2) rfl ?_)
      clear h a w; intro z87 a w hde h
      obtain ⟨v17, e18, zs⟩ := z87
      simp only at hde h
      have he7 := hde.short (by simp)
      subst he7
      refine wv h (r_move h rfl) rfl ?_
      clear h a w; intro a w h
      refine wv h (r_extractN h rfl rfl) rfl ?_
      clear h a w; intro a w h
      refine wv h (r_extractN h rfl rfl) rfl ?_
      clear h a w; intro a w h
      refine wv h (r_assign h rfl) rfl ?_
      clear h a w; intro a w h
      refine wv h (r_assign h rfl) rfl ?_
      clear h a w; intro a w h
      refine wnil (c_then ?_)
      refine c_seq ?_
      refine c_seq (c_region ?_)
      refine wv h (r_move h rfl) rfl ?_
      clear h a w; intro a w h
      refine wv h (r_bin h rfl rfl (B.neq_int)) rfl ?_
      clear h a w; intro a w h
      refine wv h (r_move h rfl) rfl ?_
      clear h a w; intro a w h
      refine wvG h (by exact .f rfl) (fun hg => by (have hg2 := hg; (simp only [Bool.and_eq_true, Bool.or_eq_true, Bool.not_eq_true', decide_eq_true_eq, decide_eq_false_iff_not] at hg2)); exact r_move h rfl) rfl ?_
      clear h a w; intro a w h
      refine wvG h (by exact .f rfl) (fun hg => by (simp only [↓gval_on hg, ↓gval_and hg] at h); (have hg2 := hg; (simp only [Bool.and_eq_true, Bool.or_eq_true, Bool.not_eq_true', decide_eq_true_eq, decide_eq_false_iff_not] at hg2)); exact r_bin h rfl rfl (B.eql_u8 (y := 0))) rfl ?_
      clear h a w; intro a w h
      refine wv h (r_pickO h rfl rfl rfl) rfl ?_
      clear h a w; intro a w h
      refine wnil (c_then ?_)
      refine c_condP (p := A ≠ 0 ∨ turn = 0) h rfl (by simp) (fun ht4 => ?_) (fun ht4 => ?_)
      ·
       as_aux_lemma =>
        refine c_seq (c_region ?_)
        refine wv h (r_move h rfl) rfl ?_
        clear h a w; intro a w h
        refine wv h (r_bin h rfl rfl (B.eql_int)) rfl ?_
        clear h a w; intro a w h
        rw [show decide ((7 : Int) = 7) = true from rfl] at h
        refine wv h (r_assign h rfl) rfl ?_
        clear h a w; intro a w h
        refine wnil (c_then ?_)
        refine c_ret ?_
        exact ret1 h rfl rfl ⟨(), rfl, h.2.drop 3, trivial⟩
      ·
       obtain ⟨q1, hA0, hoQ⟩ : i ≤ 64 ∧ A = 0 ∧ oe = some (sealP (packP ys)) := by
         rcases hA1 with q | q
         · exact q
         · omega
       have htn : turn ≠ 0 := fun q => ht4 (.inr q)
       rw [hoQ] at h
       simp only [Option.getD_some] at h
       obtain ⟨hl1, hl2⟩ := packP_len hok (by omega)
       have hsl := (seal_back (packP ys)).1
       have hst : ∀ k, k < (sealP (packP ys)).length → ¬ sumOk ((sealP (packP ys)).set k ((sealP (packP ys)).getD k 0 ^^^ turn)) := fun k hk => seal_turned hk htn
       obtain ⟨Q, hQ⟩ : ∃ Q, Q = sealP (packP ys) := ⟨_, rfl⟩
       rw [← hQ] at h hsl hst
       replace h : St _ _ _ _ _ (OwnB v39 Q :: F) := ⟨h.1, h.2.tail.tail⟩
       refine c_skip ?_
       refine c_then ?_
       refine c_seq (c_region ?_)
       refine wv h (r_move h rfl) rfl ?_
       clear h a w; intro a w h
       refine wv h (r_move h rfl) rfl ?_
       clear h a w; intro a w h
       refine wv h (r_conv h rfl K.u_uint16 K.u_int (C.i64_u16) ) rfl ?_
       clear h a w; intro a w h
       refine wv h (r_move h rfl) rfl ?_
       clear h a w; intro a w h
       refine wv h (r_lenB h rfl K.u_S_uint8 (by exact ViewsB.own 0 rfl)) rfl ?_
       clear h a w; intro a w h
       refine wv h (r_bin h rfl rfl (B.rem_i64 (by omega) (by omega))) rfl ?_
       clear h a w; intro a w h
       obtain ⟨k, hk⟩ : ∃ k : Nat, k = at_.toNat % Q.length := ⟨_, rfl⟩
       have hk2 : k < Q.length := by rw [hk]; exact Nat.mod_lt _ (by omega)
       rw [show ((at_.toNat : Int) % (Q.length : Int)) = (k : Int) by rw [hk]; simp] at h
       have hbad := hst k hk2
       refine wv h (r_elP h rfl rfl K.u_S_uint8 K.sz_uint8 (by exact ViewsB.own 0 rfl) (by omega) (by omega)) rfl ?_
       clear h a w; intro a w h
       refine wv h (r_elb h rfl K.u_uint8 rfl (by exact ViewsB.own 0 rfl) (by omega)) rfl ?_
       clear h a w; intro a w h
       refine wv h (r_move h rfl) rfl ?_
       clear h a w; intro a w h
       refine wv h (r_bin h rfl rfl (B.xor_u8)) rfl ?_
       clear h a w; intro a w h
       refine wv h (r_elP h rfl rfl K.u_S_uint8 K.sz_uint8 (by exact ViewsB.own 0 rfl) (by omega) (by omega)) rfl ?_
       clear h a w; intro a w h
       refine wl rfl (op_storeEb h rfl rfl K.sz_uint8 0 rfl (by omega) ?_)
       clear h a w; intro a w h
       (simp only [List.set_cons_zero, List.set_cons_succ] at h)
       obtain ⟨R, hR⟩ : ∃ R, R = Q.set k (Q.getD k 0 ^^^ turn) := ⟨_, rfl⟩
       have hRl : R.length = Q.length := by rw [hR, List.length_set]
       rw [← hR] at h hbad
       refine wnil (c_then ?_)
       refine c_seq (c_region ?_)
       refine wv h (r_move h rfl) rfl ?_
       clear h a w; intro a w h
       refine wl rfl (op_call h rfl K.go_pack_Decode (pack_Decode s _ v39 R _ (hT.cons _) (hF.cons _) (hC.cons _) (Views.own 0 rfl) (by omega) h.2) rfl ?_)
       clear h a w; intro z111 a w hdf h
       obtain ⟨v19, e20, zt⟩ := z111
       simp only at hdf h
       have he8 := (hdf.sum (by omega)).2 hbad
       subst he8
       refine wv h (r_move h rfl) rfl ?_
       clear h a w; intro a w h
       refine wv h (r_extractN h rfl rfl) rfl ?_
       clear h a w; intro a w h
       refine wv h (r_extractN h rfl rfl) rfl ?_
       clear h a w; intro a w h
       refine wv h (r_assign h rfl) rfl ?_
       clear h a w; intro a w h
       refine wv h (r_assign h rfl) rfl ?_
       clear h a w; intro a w h
       refine wnil (c_then ?_)
       refine c_seq (c_region ?_)
       refine wv h (r_move h rfl) rfl ?_
       clear h a w; intro a w h
       refine wv h (r_bin h rfl rfl (B.eql_int)) rfl ?_
       clear h a w; intro a w h
       refine wv h (r_move h rfl) rfl ?_
       clear h a w; intro a w h
       refine wvG h (by exact .t rfl) (fun hg => by (simp only [↓gval_on hg, ↓gval_and hg] at h); (have hg2 := hg; (simp only [Bool.and_eq_true, Bool.or_eq_true, Bool.not_eq_true', decide_eq_true_eq, decide_eq_false_iff_not] at hg2)); exact r_move h rfl) rfl ?_
       clear h a w; intro a w h
       refine wvG h (by exact .t rfl) (fun hg => by (simp only [↓gval_on hg, ↓gval_and hg] at h); (have hg2 := hg; (simp only [Bool.and_eq_true, Bool.or_eq_true, Bool.not_eq_true', decide_eq_true_eq, decide_eq_false_iff_not] at hg2)); exact r_bin h rfl rfl (B.eql_int)) rfl ?_
       clear h a w; intro a w h
       refine wv h (r_pickA h rfl rfl rfl) rfl ?_
       clear h a w; intro a w h
       refine wv h (r_assign h rfl) rfl ?_
       clear h a w; intro a w h
       refine wnil (c_then ?_)
       refine c_ret ?_
       exact ret1 h rfl rfl ⟨(), rfl, h.2.drop 3, trivial⟩
end Go.Proofs.K

