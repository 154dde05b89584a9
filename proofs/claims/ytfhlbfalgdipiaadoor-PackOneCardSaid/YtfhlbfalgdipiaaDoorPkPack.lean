/- Packs: objects by their keys. -/
import Derived.Test.YtfhlbfalgdipiaaDoorPkMerge
import Derived.Test.YtfhlbfalgdipiaaDoorStampb
import Derived.Test.YtfhlbfalgdipiaaDoorCheckb
import Derived.Test.YtfhlbfalgdipiaaDoorPkDelta
set_option linter.unusedVariables false
set_option linter.unusedSimpArgs false
set_option maxRecDepth 10000
set_option maxHeartbeats 2000000
namespace Go.Sl
abbrev bp (b : Nat) : Value := .pointer (some ⟨b, 0, none⟩)
def cellsS (x : SlV) : List Value := [x.v]
instance : Row cellsS 1 := ⟨fun _ => rfl, fun x u hu => by simp only [cellsS, List.mem_singleton] at hu; subst hu; rfl⟩
def keyO (p : List UInt8) : Key := ⟨sha p, sha_len p⟩
def itm (x : SlV) : ItV := ⟨keyO x.p, x⟩
def srtd (xs : List SlV) : List ItV := comp (isort (xs.map itm))
theorem flatS (xs : List SlV) : xs.flatMap cellsS = xs.map SlV.v := by
  induction xs with
  | nil => rfl
  | cons x l ih => rw [List.flatMap_cons, ih]; rfl
theorem fill_item (k : List UInt8) (hk : k.length = 32) (x : SlV) (zs : List Value) (hz : zs.length = 33) : Instr.fill (fun i => ([(0, 32), (32, 1)] : List (Nat × Nat))[i]?) ⟨zs⟩ [(0, .agg (arr8 k)), (1, x.v)] = some ⟨bs k ++ [x.v]⟩ := by
  have hb : (bs k).length = 32 := by rw [bs_length, hk]
  rw [fill_step (off := 0) (size := 32) (us := bs k) rfl rfl hb (by omega)]
  rw [fill_step (off := 32) (size := 1) (us := [x.v]) rfl rfl rfl (by simp [hb]; omega), Instr.fill]
  simp [List.take_append, List.drop_append, hb, hz]
theorem compL_sub : ∀ (p : ItV) (l : List ItV) (x : ItV), x ∈ compL p l → x ∈ l
  | _, [], _, h => by simp [compL] at h
  | p, y :: l, x, h => by
    rw [compL] at h
    split at h
    · exact List.mem_cons_of_mem _ (compL_sub _ _ _ h)
    · rcases List.mem_cons.1 h with rfl | h
      · simp
      · exact List.mem_cons_of_mem _ (compL_sub _ _ _ h)
theorem comp_sub : ∀ (l : List ItV) (x : ItV), x ∈ comp l → x ∈ l
  | [], _, h => by simp [comp] at h
  | y :: l, x, h => by
    rw [comp] at h
    rcases List.mem_cons.1 h with rfl | h
    · simp
    · exact List.mem_cons_of_mem _ (compL_sub _ _ _ h)
theorem compL_len : ∀ (p : ItV) (l : List ItV), (compL p l).length ≤ l.length
  | _, [] => Nat.le_refl _
  | p, y :: l => by
    rw [compL]
    have := compL_len y l
    split
    · have := compL_len y l; simp only [List.length_cons]; omega
    · simp only [List.length_cons]; omega
theorem comp_len : ∀ (l : List ItV), (comp l).length ≤ l.length
  | [] => Nat.le_refl _
  | y :: l => by rw [comp]; have := compL_len y l; simp only [List.length_cons]; omega
theorem srtd_mem {xs : List SlV} {i : ItV} (h : i ∈ srtd xs) : i.x ∈ xs ∧ i.k = keyO i.x.p := by
  have := (isort_stb (xs.map itm)).symm.mem (comp_sub _ _ h)
  obtain ⟨x, hx, rfl⟩ := List.mem_map.1 this
  exact ⟨hx, rfl⟩
theorem srtd_len (xs : List SlV) : (srtd xs).length ≤ xs.length := by
  have := comp_len (isort (xs.map itm))
  rw [isort_len, List.length_map] at this
  exact this
end Go.Sl
namespace Go.Proofs.K
open Go.Sl
attribute [local irreducible] Go.Sl.Own Go.Sl.Blk Go.Sl.Sep Go.Sl.Ex Go.Sl.Fact
theorem pack_sort (s w : World) (v : Value) (xs : List SlV) (F : List HItem) (hT : HasParts F) (hF : HasFirst F) (hv : Views F 1 v xs.length (xs.flatMap cellsS)) (hp : ∀ x ∈ xs, ViewsB F x.v x.p ∧ x.p.length ≤ 2147483648) (hl : xs.length ≤ 4000000) (hs : Sat s w F) :
    Calls P n_pack_sorted #[v] w (Ret s (fun v' : Value => v') (fun v' => OwnM 33 cellsI v' (srtd xs) :: F) (fun _ => True)) := by
  refine enter K.fn_pack_sorted rfl K.nt_pack_sorted rfl hs ?_
  clear hs w; intro a w h
  refine c_seq (c_region ?_)
  refine wv h (r_assign h rfl) rfl ?_
  clear h a w; intro a w h
  refine wnil (c_then ?_)
  refine c_seq (c_region ?_)
  refine wv h (r_assign h rfl) rfl ?_
  clear h a w; intro a w h
  refine wnil (c_then ?_)
  refine c_seq ?_
  refine c_seq (c_region ?_)
  refine wv h (r_move h rfl) rfl ?_
  clear h a w; intro a w h
  refine wv h (r_lenV h rfl K.u_S_S_uint8 (by first | exact Views.own 0 rfl | exact Views.own 1 rfl | exact Views.own 2 rfl | exact Views.own 3 rfl | exact Views.own 4 rfl | exact Views.own 5 rfl | assumption | exact Views.of_drop 1 (by assumption) | exact Views.of_drop 2 (by assumption) | exact Views.of_drop 3 (by assumption) | exact Views.of_drop 4 (by assumption) | exact Views.of_drop 5 (by assumption) | exact Views.of_drop 6 (by assumption) | exact Views.of_drop 7 (by assumption) | exact Views.of_drop 8 (by assumption) | exact Views.of_drop 9 (by assumption) | exact Views.of_drop 10 (by assumption) | exact Views.of_drop 11 (by assumption) | exact Views.of_drop 12 (by assumption))) rfl ?_
  clear h a w; intro a w h
  refine wv h (r_move h rfl) rfl ?_
  clear h a w; intro a w h
  refine wnil (c_then ?_)
  refine c_block ?_
  replace h := h.addNilM (size := 33) (cells := cellsI)
  refine c_loop (X := Nat × Value) (fun z => [(3, z.2), (6, v), (7, .int .i64 (xs.length : Int)), (8, .int .i64 (z.1 : Int))]) (fun z => OwnM 33 cellsI z.2 ((xs.take z.1).map itm) :: F) (fun z => z.1 ≤ xs.length) (fun z => xs.length - z.1) (0, .slice none 0 0) (h.keep [3, 6, 7, 8]) (Nat.zero_le _) ?_
  clear h a w; intro z a w hz h
  obtain ⟨i, ov⟩ := z
  simp only at hz h
  as_aux_lemma =>
   refine c_seq (c_region ?_)
   refine wv h (r_bin h rfl rfl (B.lss_int)) rfl ?_
   clear h a w; intro a w h
   refine wnil (c_then ?_)
   refine c_seq ?_
   refine c_condP (p := i < xs.length) h rfl (by simp) (fun ht1 => ?_) (fun ht1 => ?_)
   ·
    obtain ⟨x, hx⟩ : ∃ x, xs[i]? = some x := ⟨_, List.getElem?_eq_getElem ht1⟩
    obtain ⟨hxv, hxl⟩ := hp x (List.mem_of_getElem? hx)
    have tx : xs.take (i + 1) = xs.take i ++ [x] := by rw [List.take_add_one, hx]; rfl
    have hxc : (xs.flatMap cellsS)[i * 1]? = some x.v := by rw [flatS, Nat.mul_one, List.getElem?_map, hx]; rfl
    have hml : ((xs.take i).map itm).length = i := by rw [List.length_map, List.length_take]; omega
    have hci : cellsI (itm x) = bs (sha x.p) ++ [x.v] := rfl
    have hsl := sha_len x.p
    obtain ⟨ki, hki⟩ : ∃ k, k = sha x.p := ⟨_, rfl⟩
    obtain ⟨ix, hix⟩ : ∃ k, k = itm x := ⟨_, rfl⟩
    rw [← hki] at hsl hci
    rw [← hix] at hci
    have hfi := fill_item ki hsl x
    refine c_skip ?_
    refine c_then ?_
    refine c_seq ?_
    refine c_block ?_
    refine c_seq (c_region ?_)
    refine wv h (r_elPv h rfl rfl K.u_S_S_uint8 K.sz_S_uint8 (hv.cons _) i rfl ht1) rfl ?_
    clear h a w; intro a w h
    refine wv h (r_elG h rfl K.u_S_uint8 rfl (hv.cons _) hxc) rfl ?_
    clear h a w; intro a w h
    refine wv h (r_assign h rfl) rfl ?_
    clear h a w; intro a w h
    refine wnil (c_then ?_)
    refine c_region ?_
    refine wv h (r_move h rfl) rfl ?_
    clear h a w; intro a w h
    refine wv h (r_move h rfl) rfl ?_
    clear h a w; intro a w h
    refine wl rfl (op_call h rfl K.go_stamp_Of (stamp_Of s _ x.v x.p _ (hT.cons _) (hF.cons _) (hxv.cons _) hxl h.2) rfl ?_)
    clear h a w; intro z14 a w hz14 h
    (try simp only [List.set_cons_zero, List.set_cons_succ] at h)
    rw [← hki] at h
    refine wv h (r_move h rfl) rfl ?_
    clear h a w; intro a w h
    refine wv h (r_build (cells := ⟨cellsI ix⟩) h K.u_pack_item K.z_pack_item K.pl_pack_item rfl (by rw [hci]; exact hfi _ rfl)) rfl ?_
    clear h a w; intro a w h
    refine wl rfl (op_build1 (us := cellsI ix) h K.u_S_pack_item K.sz_pack_item K.z_pack_item rfl rfl rfl (Row.len ix) rfl ?_)
    clear h a w; intro b17 a w h
    refine wl rfl (op_appendR1 (cells := cellsI) (u := ix) h rfl rfl K.u_S_pack_item K.sz_pack_item K.z_pack_item rfl rfl 0 rfl (by omega) rfl ?_)
    clear h a w; intro v18 a w h
    simp only [List.set_cons_zero] at h
    refine wv h (r_assign h rfl) rfl ?_
    clear h a w; intro a w h
    refine wnil ?_
    refine b_normal ?_
    refine c_then ?_
    refine c_region ?_
    refine wv h (r_bin h rfl rfl (B.add_i64 (by omega) (by omega))) rfl ?_
    clear h a w; intro a w h
    refine wv h (r_move h rfl) rfl ?_
    clear h a w; intro a w h
    refine wnil ?_
    refine ⟨(i + 1, v18), ?_, ht1, by simp only; omega⟩
    have e : (xs.take (i + 1)).map itm = (xs.take i).map itm ++ [ix] := by rw [tx, List.map_append, hix]; rfl
    show St 24 s a w _ (OwnM 33 cellsI v18 ((xs.take (i + 1)).map itm) :: F)
    rw [e]
    exact h.keep [3, 6, 7, 8]
   ·
    rw [List.take_of_length_le (by omega)] at h
    refine c_exit ?_
    refine e_then ?_
    refine e_then ?_
    refine e_here ?_
    refine c_then ?_
    refine c_seq (c_region ?_)
    refine wv h (r_move h rfl) rfl ?_
    clear h a w; intro a w h
    refine wl rfl (op_call h rfl K.go_slices_SortStableFunc_pack_item_pack_item (sl_SortStable s _ ov (xs.map itm) _ (by rw [List.length_map]; exact hl) h.2) rfl ?_)
    clear h a w; intro z21 a w hz21 h
    (try simp only [List.set_cons_zero, List.set_cons_succ] at h)
    refine wnil (c_then ?_)
    refine c_seq (c_region ?_)
    refine wv h (r_move h rfl) rfl ?_
    clear h a w; intro a w h
    refine wl rfl (op_call h rfl K.go_slices_CompactFunc_pack_item_pack_item (sl_Compact s _ ov (isort (xs.map itm)) _ (by rw [isort_len, List.length_map]; exact hl) h.2) rfl ?_)
    clear h a w; intro v23 a w hz23 h
    (try simp only [List.set_cons_zero, List.set_cons_succ] at h)
    refine wv h (r_assign h rfl) rfl ?_
    clear h a w; intro a w h
    refine wnil (c_then ?_)
    refine c_ret ?_
    exact ret1 h rfl rfl ⟨v23, rfl, h.2, trivial⟩
end Go.Proofs.K

/- Packs: Encode. -/
namespace Go.Sl
def encG : Option (List UInt8) → Nat → List UInt8 → List (List UInt8) → Option (List UInt8)
  | _, _, acc, [] => some acc
  | prev, ch, acc, p :: l =>
    if p.length = 0 ∨ 900 < p.length then none else
    if prev.isSome = true ∧ ch < 4 ∧ (deltaN (prev.getD []) p).length < p.length then encG (some p) (ch + 1) (acc ++ numN (2 * (deltaN (prev.getD []) p).length + 1) ++ deltaN (prev.getD []) p) l
    else encG (some p) 0 (acc ++ numN (2 * p.length) ++ p) l
def headP (n : Nat) : List UInt8 := [80, 49] ++ numN n
def sealP (b : List UInt8) : List UInt8 := b ++ fourN (crcN b)
def encP (ps : List (List UInt8)) : Option (List UInt8) := if 64 < ps.length then none else (encG none 0 (headP ps.length) ps).map sealP
def bytesI (its : List ItV) : List (List UInt8) := its.map fun i => i.x.p
def prevP (ps : List (List UInt8)) (i : Nat) : Option (List UInt8) := if i = 0 then none else ps[i - 1]?
theorem cellsI_x (i : ItV) : nth (cellsI i) 32 = some i.x.v := by
  rw [nth_eq, cellsI, List.getElem?_append_right (by rw [bs_length, i.k.len]; exact Nat.le_refl _), bs_length, i.k.len]; rfl
end Go.Sl
namespace Go.Proofs.K
open Go.Sl
attribute [local irreducible] Go.Sl.Own Go.Sl.Blk Go.Sl.Sep Go.Sl.Ex Go.Sl.Fact
theorem pack_Encode (s w : World) (v : Value) (xs : List SlV) (F : List HItem) (hT : HasParts F) (hF : HasFirst F) (hC : HasLines F) (hv : Views F 1 v xs.length (xs.flatMap cellsS)) (hp : ∀ x ∈ xs, ViewsB F x.v x.p ∧ x.p.length ≤ 2147483648) (hl : xs.length ≤ 4000000) (hs : Sat s w F) :
    Calls P n_pack_Encode #[v] w (Ret s (fun v' : Value => .tuple #[v', .int .i64 (if (encP (bytesI (srtd xs))).isSome then 0 else 1)]) (fun v' => OwnB v' ((encP (bytesI (srtd xs))).getD []) :: F) (fun _ => True)) := by
  refine enter K.fn_pack_Encode rfl K.nt_pack_Encode rfl hs ?_
  clear hs w; intro a w h
  refine c_seq (c_region ?_)
  refine wv h (r_assign h rfl) rfl ?_
  clear h a w; intro a w h
  refine wv h (r_assign h rfl) rfl ?_
  clear h a w; intro a w h
  refine wnil (c_then ?_)
  refine c_seq (c_region ?_)
  refine wv h (r_move h rfl) rfl ?_
  clear h a w; intro a w h
  refine wl rfl (op_call h rfl K.go_pack_sorted (pack_sort s _ v xs _ hT hF hv hp hl h.2) rfl ?_)
  clear h a w; intro v11 a w hz11 h
  (try simp only [List.set_cons_zero, List.set_cons_succ] at h)
  have hmem : ∀ i ∈ srtd xs, ViewsB F i.x.v i.x.p ∧ i.x.p.length ≤ 2147483648 := fun i hi => hp _ (srtd_mem hi).1
  obtain ⟨its, hits⟩ : ∃ its, its = srtd xs := ⟨_, rfl⟩
  have hil : its.length ≤ xs.length := by rw [hits]; exact srtd_len xs
  rw [← hits] at hmem ⊢
  rw [← hits] at h
  obtain ⟨ps, hps⟩ : ∃ ps, ps = bytesI its := ⟨_, rfl⟩
  have hpl : ps.length = its.length := by rw [hps, bytesI, List.length_map]
  rw [← hps]
  refine wv h (r_assign h rfl) rfl ?_
  clear h a w; intro a w h
  refine wnil (c_then ?_)
  refine c_seq ?_
  refine c_seq (c_region ?_)
  refine wv h (r_move h rfl) rfl ?_
  clear h a w; intro a w h
  refine wv h (r_lenV h rfl K.u_S_pack_item (by first | exact Views.own 0 rfl | exact Views.own 1 rfl | exact Views.own 2 rfl | exact Views.own 3 rfl | exact Views.own 4 rfl | exact Views.own 5 rfl | assumption | exact Views.of_drop 1 (by assumption) | exact Views.of_drop 2 (by assumption) | exact Views.of_drop 3 (by assumption) | exact Views.of_drop 4 (by assumption) | exact Views.of_drop 5 (by assumption) | exact Views.of_drop 6 (by assumption) | exact Views.of_drop 7 (by assumption) | exact Views.of_drop 8 (by assumption) | exact Views.of_drop 9 (by assumption) | exact Views.of_drop 10 (by assumption) | exact Views.of_drop 11 (by assumption) | exact Views.of_drop 12 (by assumption))) rfl ?_
  clear h a w; intro a w h
  refine wv h (r_bin h rfl rfl (B.gtr_int)) rfl ?_
  clear h a w; intro a w h
  refine wnil (c_then ?_)
  refine c_condP (p := 64 < its.length) h rfl (by simp; omega) (fun ht1 => ?_) (fun ht1 => ?_)
  ·
   as_aux_lemma =>
    refine c_seq (c_region ?_)
    refine wv h (r_assign h rfl) rfl ?_
    clear h a w; intro a w h
    refine wv h (r_assign h rfl) rfl ?_
    clear h a w; intro a w h
    refine wnil (c_then ?_)
    refine c_ret ?_
    have e : encP ps = none := by rw [encP, if_pos (by omega)]
    replace h := h.addNilb
    exact ret2 h rfl rfl rfl ⟨.slice none 0 0, by rw [e]; rfl, by rw [e]; exact ((h.2.front 1 rfl).tail), trivial⟩
  ·
   refine c_skip ?_
   refine c_then ?_
   refine c_seq (c_region ?_)
   refine wl rfl (op_alloc h K.z_digit_Pen rfl ?_)
   clear h a w; intro b15 a w h
   replace h := St_toPen h
   refine wl rfl (op_buildSlice h K.u_S_uint8 K.sz_uint8 K.z_uint8 rfl rfl rfl rfl rfl (by simp [Value.cells, bv, w32, w64, sv]) rfl ?_)
   clear h a w; intro b16 a w h
   first
      | (refine wl rfl (op_lit h rfl K.u_S_uint8 K.u_uint8 0 rfl rfl ?_))
      | (refine wl rfl (op_lit h rfl K.u_S_uint8 K.u_uint8 1 rfl rfl ?_))
      | (refine wl rfl (op_lit h rfl K.u_S_uint8 K.u_uint8 2 rfl rfl ?_))
      | (refine wl rfl (op_lit h rfl K.u_S_uint8 K.u_uint8 3 rfl rfl ?_))
   clear h a w; intro a w h
   (try simp only [List.set_cons_zero, List.set_cons_succ] at h)
   (try simp only [List.set_cons_zero, List.set_cons_succ] at h)
   first | replace h := h.toOwnb [80, 49] (NF.past _) rfl rfl | (replace h := h.front 1 rfl; replace h := h.toOwnb [80, 49] (NF.past _) rfl rfl) | (replace h := h.front 2 rfl; replace h := h.toOwnb [80, 49] (NF.past _) rfl rfl) | (replace h := h.front 3 rfl; replace h := h.toOwnb [80, 49] (NF.past _) rfl rfl)
   refine wl rfl (op_call h rfl K.go_digit_Pen_Raw (pen_Raw s _ b15 _ [] [80, 49] _ 1 rfl (Views.own 0 rfl) (by simp) h.2) rfl ?_)
   clear h a w; intro x a w hx h
   (try simp only [List.set_cons_zero, List.set_cons_succ] at h)
   refine wv h (r_move h rfl) rfl ?_
   clear h a w; intro a w h
   refine wv h (r_lenV h rfl K.u_S_pack_item (by first | exact Views.own 0 rfl | exact Views.own 1 rfl | exact Views.own 2 rfl | exact Views.own 3 rfl | exact Views.own 4 rfl | exact Views.own 5 rfl | assumption | exact Views.of_drop 1 (by assumption) | exact Views.of_drop 2 (by assumption) | exact Views.of_drop 3 (by assumption) | exact Views.of_drop 4 (by assumption) | exact Views.of_drop 5 (by assumption) | exact Views.of_drop 6 (by assumption) | exact Views.of_drop 7 (by assumption) | exact Views.of_drop 8 (by assumption) | exact Views.of_drop 9 (by assumption) | exact Views.of_drop 10 (by assumption) | exact Views.of_drop 11 (by assumption) | exact Views.of_drop 12 (by assumption))) rfl ?_
   clear h a w; intro a w h
   refine wl rfl (op_call h rfl K.go_digit_Pen_Num (pen_Num s _ b15 [80, 49] its.length _ 1 rfl (by omega) (by simp) h.2) rfl ?_)
   clear h a w; intro x a w hx h
   (try simp only [List.set_cons_zero, List.set_cons_succ] at h)
   refine wv h (r_assign h rfl) rfl ?_
   clear h a w; intro a w h
   refine wnil (c_then ?_)
   refine c_seq (c_region ?_)
   refine wv h (r_assign h rfl) rfl ?_
   clear h a w; intro a w h
   refine wnil (c_then ?_)
   refine c_seq ?_
   refine c_seq (c_region ?_)
   refine wv h (r_move h rfl) rfl ?_
   clear h a w; intro a w h
   refine wv h (r_lenV h rfl K.u_S_pack_item (by first | exact Views.own 0 rfl | exact Views.own 1 rfl | exact Views.own 2 rfl | exact Views.own 3 rfl | exact Views.own 4 rfl | exact Views.own 5 rfl | assumption | exact Views.of_drop 1 (by assumption) | exact Views.of_drop 2 (by assumption) | exact Views.of_drop 3 (by assumption) | exact Views.of_drop 4 (by assumption) | exact Views.of_drop 5 (by assumption) | exact Views.of_drop 6 (by assumption) | exact Views.of_drop 7 (by assumption) | exact Views.of_drop 8 (by assumption) | exact Views.of_drop 9 (by assumption) | exact Views.of_drop 10 (by assumption) | exact Views.of_drop 11 (by assumption) | exact Views.of_drop 12 (by assumption))) rfl ?_
   clear h a w; intro a w h
   refine wv h (r_move h rfl) rfl ?_
   clear h a w; intro a w h
   refine wnil (c_then ?_)
   refine c_block ?_
   replace h := h.mem (fun q => q.tail)
   have hhd : [80, 49] ++ numN its.length = headP ps.length := by rw [hpl]; rfl
   have hhl : (headP ps.length).length ≤ 20 := by have := numN_len9 ps.length (by omega); rw [headP, List.length_append]; simp only [List.length_cons, List.length_nil]; omega
   rw [hhd] at h
   refine c_loop (X := Nat × Nat × List UInt8) (fun z => [(4, v11), (5, bp b15), (6, .int .i64 (z.2.1 : Int)), (22, v11), (23, .int .i64 (its.length : Int)), (24, .int .i64 (z.1 : Int))]) (fun z => PenI b15 z.2.2 :: OwnM 33 cellsI v11 its :: F)
     (fun z => z.1 ≤ its.length ∧ z.2.1 ≤ 4 ∧ z.2.2.length ≤ 20 + 920 * z.1 ∧ encG none 0 (headP ps.length) ps = encG (prevP ps z.1) z.2.1 z.2.2 (ps.drop z.1)) (fun z => its.length - z.1) (0, 0, headP ps.length) (h.keep [4, 5, 6, 22, 23, 24]) ⟨Nat.zero_le _, by simp only; omega, by simp only; omega, rfl⟩ ?_
   clear h a w; intro z a w hz h
   obtain ⟨i, ch, acc⟩ := z
   obtain ⟨z1, z2, z3, z4⟩ := hz
   simp only at z1 z2 z3 z4 h
   as_aux_lemma =>
    refine c_seq (c_region ?_)
    refine wv h (r_bin h rfl rfl (B.lss_int)) rfl ?_
    clear h a w; intro a w h
    refine wnil (c_then ?_)
    refine c_seq ?_
    refine c_condP (p := i < its.length) h rfl (by simp) (fun ht2 => ?_) (fun ht2 => ?_)
    ·
     obtain ⟨it, hit⟩ : ∃ it, its[i]? = some it := ⟨_, List.getElem?_eq_getElem ht2⟩
     obtain ⟨hxv, hxl⟩ := hmem it (List.mem_of_getElem? hit)
     have hpi : ps[i]? = some it.x.p := by rw [hps, bytesI, List.getElem?_map, hit]; rfl
     have dp : ps.drop i = it.x.p :: ps.drop (i + 1) := by
       obtain ⟨hlt, e⟩ := List.getElem?_eq_some_iff.1 hpi
       rw [List.drop_eq_getElem_cons hlt, e]
     rw [dp, encG] at z4
     have hcx := cellsI_x it
     have hcl : (cellsI it).length = 33 := Row.len it
     have hco : ∀ u ∈ cellsI it, u.oneCell' = true := Row.one (size := 33) it
     refine c_skip ?_
     refine c_then ?_
     refine c_seq ?_
     refine c_block ?_
     refine c_seq (c_region ?_)
     refine wv h (r_move h rfl) rfl ?_
     clear h a w; intro a w h
     refine wv h (r_elPv h rfl rfl K.u_S_pack_item K.sz_pack_item (Views.own 1 rfl) i rfl ht2) rfl ?_
     clear h a w; intro a w h
     refine wv h (r_elM (cells := cellsI) h rfl K.u_pack_item rfl K.sz_pack_item rfl (Views.own 1 rfl) hit) rfl ?_
     clear h a w; intro a w h
     refine wl rfl (op_alloc h K.z_pack_item rfl ?_)
     clear h a w; intro b8 a w h
     refine wv h (r_assign h rfl) rfl ?_
     clear h a w; intro a w h
     first
          | (refine wl rfl (op_stA h rfl rfl K.sz_pack_item (by first | exact Row.len _ | rfl | assumption | (simp; done) | (simp; omega) | omega) (by first | exact Row.one _ | exact bs_one _ | assumption | (simp; done) | (simp; (repeat' apply And.intro) <;> first | rfl | assumption)) 0 rfl (by first | rfl | assumption | (simp; done) | (simp; omega) | omega) ?_))
          | (refine wl rfl (op_stA h rfl rfl K.sz_pack_item (by first | exact Row.len _ | rfl | assumption | (simp; done) | (simp; omega) | omega) (by first | exact Row.one _ | exact bs_one _ | assumption | (simp; done) | (simp; (repeat' apply And.intro) <;> first | rfl | assumption)) 1 rfl (by first | rfl | assumption | (simp; done) | (simp; omega) | omega) ?_))
          | (refine wl rfl (op_stA h rfl rfl K.sz_pack_item (by first | exact Row.len _ | rfl | assumption | (simp; done) | (simp; omega) | omega) (by first | exact Row.one _ | exact bs_one _ | assumption | (simp; done) | (simp; (repeat' apply And.intro) <;> first | rfl | assumption)) 2 rfl (by first | rfl | assumption | (simp; done) | (simp; omega) | omega) ?_))
          | (refine wl rfl (op_stA h rfl rfl K.sz_pack_item (by first | exact Row.len _ | rfl | assumption | (simp; done) | (simp; omega) | omega) (by first | exact Row.one _ | exact bs_one _ | assumption | (simp; done) | (simp; (repeat' apply And.intro) <;> first | rfl | assumption)) 3 rfl (by first | rfl | assumption | (simp; done) | (simp; omega) | omega) ?_))
          | (refine wl rfl (op_stA h rfl rfl K.sz_pack_item (by first | exact Row.len _ | rfl | assumption | (simp; done) | (simp; omega) | omega) (by first | exact Row.one _ | exact bs_one _ | assumption | (simp; done) | (simp; (repeat' apply And.intro) <;> first | rfl | assumption)) 4 rfl (by first | rfl | assumption | (simp; done) | (simp; omega) | omega) ?_))
          | (refine wl rfl (op_stA h rfl rfl K.sz_pack_item (by first | exact Row.len _ | rfl | assumption | (simp; done) | (simp; omega) | omega) (by first | exact Row.one _ | exact bs_one _ | assumption | (simp; done) | (simp; (repeat' apply And.intro) <;> first | rfl | assumption)) 5 rfl (by first | rfl | assumption | (simp; done) | (simp; omega) | omega) ?_))
     clear h a w; intro a w h
     (try simp only [List.set_cons_zero, List.set_cons_succ] at h)
     refine wnil (c_then ?_)
     refine c_seq ?_
     replace h := h.mem (fun q => q.front 1 rfl)
     simp only [List.eraseIdx_cons_succ, List.eraseIdx_cons_zero] at h
     refine c_seq (c_region ?_)
     refine wv h (r_fieldAddr h 32 rfl K.u_pack_item rfl K.sz_S_uint8 rfl rfl) rfl ?_
     clear h a w; intro a w h
     refine wv h (r_ldN (v := it.x.v) h rfl K.u_S_uint8 rfl 1 rfl hcx) rfl ?_
     clear h a w; intro a w h
     refine wv h (r_lenB h rfl K.u_S_uint8 (((hxv.cons _).cons _).cons _)) rfl ?_
     clear h a w; intro a w h
     refine wv h (r_bin h rfl rfl (B.eql_int)) rfl ?_
     clear h a w; intro a w h
     refine wv h (r_move h rfl) rfl ?_
     clear h a w; intro a w h
     refine wvG h (by first | exact .t rfl | exact .f rfl | exact .gt rfl | exact .gf rfl) (fun hg => by (try simp only [↓gval_on hg, ↓gval_and hg] at h); (have hg2 := hg; (try simp only [Bool.and_eq_true, Bool.or_eq_true, Bool.not_eq_true', decide_eq_true_eq, decide_eq_false_iff_not] at hg2)); first | exact r_fieldAddr h 32 rfl K.u_pack_item rfl K.sz_S_uint8 rfl rfl) rfl ?_
     clear h a w; intro a w h
     refine wvG h (by first | exact .t rfl | exact .f rfl | exact .gt rfl | exact .gf rfl) (fun hg => by (try simp only [↓gval_on hg, ↓gval_and hg] at h); exact r_ldN (v := it.x.v) h rfl K.u_S_uint8 rfl 1 rfl hcx) rfl ?_
     clear h a w; intro a w h
     refine wvG h (by first | exact .t rfl | exact .f rfl | exact .gt rfl | exact .gf rfl) (fun hg => by (try simp only [↓gval_on hg, ↓gval_and hg] at h); exact r_lenB h rfl K.u_S_uint8 (((hxv.cons _).cons _).cons _)) rfl ?_
     clear h a w; intro a w h
     refine wvG h (by first | exact .t rfl | exact .f rfl | exact .gt rfl | exact .gf rfl) (fun hg => by (try simp only [↓gval_on hg, ↓gval_and hg] at h); (have hg2 := hg; (try simp only [Bool.and_eq_true, Bool.or_eq_true, Bool.not_eq_true', decide_eq_true_eq, decide_eq_false_iff_not] at hg2)); first | exact r_bin h rfl rfl (B.gtr_int)) rfl ?_
     clear h a w; intro a w h
     first
          | (refine wv h (r_pickA h rfl rfl rfl) rfl ?_)
          | (refine wv h (r_pickO h rfl rfl rfl) rfl ?_)
          | (refine wv h (r_pick_true h rfl rfl) rfl ?_)
          | (refine wv h (r_pick_false h rfl rfl) rfl ?_)
          | (refine wv h (r_pick h rfl rfl rfl) rfl ?_)
     clear h a w; intro a w h
     refine wnil (c_then ?_)
     refine c_condP (p := it.x.p.length = 0 ∨ 900 < it.x.p.length) h rfl (by simp only [Bool.or_eq_true, decide_eq_true_eq]; omega) (fun ht3 => ?_) (fun ht3 => ?_)
     ·
      as_aux_lemma =>
       refine c_seq (c_region ?_)
       refine wv h (r_assign h rfl) rfl ?_
       clear h a w; intro a w h
       refine wv h (r_assign h rfl) rfl ?_
       clear h a w; intro a w h
       refine wnil (c_then ?_)
       refine c_ret ?_
       rw [if_pos ht3] at z4
       have e : encP ps = none := by rw [encP, if_neg (by omega), z4]; rfl
       replace h := h.addNilb
       exact ret2 h rfl rfl rfl ⟨.slice none 0 0, by rw [e]; rfl, by rw [e]; exact ((((((h.2.front 1 rfl).tail).front 1 rfl).tail).front 1 rfl).tail), trivial⟩
     ·
      rw [if_neg ht3] at z4
      have hp9 : it.x.p.length ≤ 900 := by omega
      have hp1 : 0 < it.x.p.length := by omega
      refine c_skip ?_
      refine c_then ?_
      refine c_meet h (X := Unit) (fun _ => [(4, v11), (5, bp b15), (6, .int .i64 (ch : Int)), (8, bp b8), (22, v11), (23, .int .i64 (its.length : Int)), (24, .int .i64 (i : Int))]) (fun _ => PenI b15 acc :: (Blk b8 (.cells ⟨cellsI it⟩ t_pack_item) :: OwnM 33 cellsI v11 its :: F))
        (fun _ => ¬ ((prevP ps i).isSome = true ∧ ch < 4 ∧ (deltaN ((prevP ps i).getD []) it.x.p).length < it.x.p.length)) ?_ ?_
      ·
       refine c_seq (c_region ?_)
       refine wv h (r_move h rfl) rfl ?_
       clear h a w; intro a w h
       refine wv h (r_bin h rfl rfl (B.gtr_int)) rfl ?_
       clear h a w; intro a w h
       refine wv h (r_move h rfl) rfl ?_
       clear h a w; intro a w h
       refine wvG h (by first | exact .t rfl | exact .f rfl | exact .gt rfl | exact .gf rfl) (fun hg => by (try simp only [↓gval_on hg, ↓gval_and hg] at h); (have hg2 := hg; (try simp only [Bool.and_eq_true, Bool.or_eq_true, Bool.not_eq_true', decide_eq_true_eq, decide_eq_false_iff_not] at hg2)); first | exact r_move h rfl) rfl ?_
       clear h a w; intro a w h
       refine wvG h (by first | exact .t rfl | exact .f rfl | exact .gt rfl | exact .gf rfl) (fun hg => by (try simp only [↓gval_on hg, ↓gval_and hg] at h); (have hg2 := hg; (try simp only [Bool.and_eq_true, Bool.or_eq_true, Bool.not_eq_true', decide_eq_true_eq, decide_eq_false_iff_not] at hg2)); first | exact r_bin h rfl rfl (B.lss_int)) rfl ?_
       clear h a w; intro a w h
       first
              | (refine wv h (r_pickA h rfl rfl rfl) rfl ?_)
              | (refine wv h (r_pickO h rfl rfl rfl) rfl ?_)
              | (refine wv h (r_pick_true h rfl rfl) rfl ?_)
              | (refine wv h (r_pick_false h rfl rfl) rfl ?_)
              | (refine wv h (r_pick h rfl rfl rfl) rfl ?_)
       clear h a w; intro a w h
       refine wnil (c_then ?_)
       refine c_condP (p := 0 < i ∧ ch < 4) h rfl (by simp only [Bool.and_eq_true, decide_eq_true_eq]; omega) (fun ht4 => ?_) (fun ht4 => ?_)
       ·
        obtain ⟨i0, hi0⟩ : ∃ it0, its[i - 1]? = some it0 := ⟨_, List.getElem?_eq_getElem (by omega)⟩
        obtain ⟨hyv, hyl⟩ := hmem i0 (List.mem_of_getElem? hi0)
        have hpp : prevP ps i = some i0.x.p := by rw [prevP, if_neg (by omega), hps, bytesI, List.getElem?_map, hi0]; rfl
        rw [hpp] at z4 ⊢
        have hcy := cellsI_x i0
        as_aux_lemma =>
         refine c_seq (c_drawn 10 K.mixed rfl h ?_)
         clear h a w; intro a w h
         have hD : Paid s w [] := Paid.nil
         refine d_take0 (listed' := #[true, false, false, false, false, false, false, false, false, false]) h hD 0 (by as_aux_lemma => kernel_rfl) rfl (by as_aux_lemma => kernel_rfl) (by as_aux_lemma => kernel_rfl) (by as_aux_lemma => kernel_rfl) (fun _ _ _ _ hh => hh) (fun w h => by first | exact r_move h rfl) rfl ?_
         clear hD h a w; intro a w h hD
         refine d_take0 (listed' := #[true, true, false, false, false, false, false, false, false, false]) h hD 1 (by as_aux_lemma => kernel_rfl) rfl (by as_aux_lemma => kernel_rfl) (by as_aux_lemma => kernel_rfl) (by as_aux_lemma => kernel_rfl) (fun _ _ _ _ hh => hh) (fun w h => by first | exact r_move h rfl) rfl ?_
         clear hD h a w; intro a w h hD
         refine d_take0 (listed' := #[true, true, true, false, false, false, false, false, false, false]) h hD 2 (by as_aux_lemma => kernel_rfl) rfl (by as_aux_lemma => kernel_rfl) (by as_aux_lemma => kernel_rfl) (by as_aux_lemma => kernel_rfl) (fun _ _ _ _ hh => hh) (fun w h => by first | exact r_bin h rfl rfl (B.sub_i64 (by omega) (by omega))) rfl ?_
         clear hD h a w; intro a w h hD
         refine d_take (listed' := #[true, true, true, true, false, false, false, false, false, false]) h hD 3 _ (by as_aux_lemma => kernel_rfl) rfl (by as_aux_lemma => kernel_rfl) (by as_aux_lemma => kernel_rfl) (by as_aux_lemma => kernel_rfl) (fun _ _ _ _ hh => hh) h.2 (fun w hw => by first | exact r_elPv /- Views -/ ⟨h.1, hw⟩ rfl rfl K.u_S_pack_item K.sz_pack_item (Views.own 2 rfl) (i - 1) (by omega) (by omega)) rfl ?_
         clear hD h a w; intro a w h hD
         refine d_take (listed' := #[true, true, true, true, true, false, false, false, false, false]) h hD 4 _ (by as_aux_lemma => kernel_rfl) rfl (by as_aux_lemma => kernel_rfl) (by as_aux_lemma => kernel_rfl) (by as_aux_lemma => kernel_rfl) (fun _ _ _ _ hh => hh) h.2 (fun w hw => by first | exact r_elF /- Views -/ ⟨h.1, hw⟩ 32 rfl K.u_pack_item rfl K.sz_S_uint8 rfl rfl (Views.own 2 rfl) (by omega)) rfl ?_
         clear hD h a w; intro a w h hD
         refine d_take (listed' := #[true, true, true, true, true, true, false, false, false, false]) h hD 5 _ (by as_aux_lemma => kernel_rfl) rfl (by as_aux_lemma => kernel_rfl) (by as_aux_lemma => kernel_rfl) (by as_aux_lemma => kernel_rfl) (fun _ _ _ _ hh => hh) h.2 (fun w hw => by first | exact r_elMf (cells := cellsI) /- Views -/ ⟨h.1, hw⟩ rfl K.u_S_uint8 rfl (Views.own 2 rfl) hi0 hcy) rfl ?_
         clear hD h a w; intro a w h hD
         refine d_take0 (listed' := #[true, true, true, true, true, true, true, false, false, false]) h hD 6 (by as_aux_lemma => kernel_rfl) rfl (by as_aux_lemma => kernel_rfl) (by as_aux_lemma => kernel_rfl) (by as_aux_lemma => kernel_rfl) (fun _ _ _ _ hh => hh) (fun w h => by first | exact r_fieldAddr h 32 rfl K.u_pack_item rfl K.sz_S_uint8 rfl rfl) rfl ?_
         clear hD h a w; intro a w h hD
         refine d_take (listed' := #[true, true, true, true, true, true, true, true, false, false]) h hD 7 _ (by as_aux_lemma => kernel_rfl) rfl (by as_aux_lemma => kernel_rfl) (by as_aux_lemma => kernel_rfl) (by as_aux_lemma => kernel_rfl) (fun _ _ _ _ hh => hh) h.2 (fun w hw => by first | exact r_ldN (v := it.x.v) /- Views -/ ⟨h.1, hw⟩ rfl K.u_S_uint8 rfl 1 rfl hcx) rfl ?_
         clear hD h a w; intro a w h hD
         refine d_only (listed' := #[true, true, true, true, true, true, true, true, true, false]) 8 [false, false, true, true] (by as_aux_lemma => kernel_rfl) rfl rfl (by as_aux_lemma => kernel_rfl) (by as_aux_lemma => kernel_rfl) ?_
         refine op_call h rfl K.go_delta_Make (delta_Make s _ i0.x.v it.x.v i0.x.p it.x.p _ (((hyv.cons _).cons _).cons _) (((hxv.cons _).cons _).cons _) (by omega) h.2) rfl ?_
         clear hD h a w; intro v53 a w hz53 h
         (try simp only [List.set_cons_zero, List.set_cons_succ] at h)
         obtain ⟨d, hd⟩ : ∃ d, d = deltaN i0.x.p it.x.p := ⟨_, rfl⟩
         rw [← hd] at h
         simp only [Option.isSome_some, Option.getD_some, true_and] at z4
         rw [← hd] at z4
         refine d_pay (Paid.cons (by first | exact h.2 | exact h.2.drop 1 | exact h.2.drop 2 | exact h.2.drop 3 | exact h.2.drop 4 | exact h.2.drop 5 | exact h.2.drop 6 | exact h.2.drop 7) (Paid.cons (by first | exact h.2 | exact h.2.drop 1 | exact h.2.drop 2 | exact h.2.drop 3 | exact h.2.drop 4 | exact h.2.drop 5 | exact h.2.drop 6 | exact h.2.drop 7) (Paid.nil))) (fun hD => ?_)
         refine d_take0 (listed' := #[true, true, true, true, true, true, true, true, true, true]) h hD 9 (by as_aux_lemma => kernel_rfl) rfl (by as_aux_lemma => kernel_rfl) (by as_aux_lemma => kernel_rfl) (by as_aux_lemma => kernel_rfl) (fun _ _ _ _ hh => hh) (fun w h => by first | exact r_assign h rfl) rfl ?_
         clear hD h a w; intro a w h hD
         refine d_done (by kernel_rfl) ?_
         clear hD
         refine c_then ?_
         refine c_seq (c_region ?_)
         refine wv h (r_move h rfl) rfl ?_
         clear h a w; intro a w h
         refine wv h (r_lenB h rfl K.u_S_uint8 (by first | exact ViewsB.own 0 rfl | exact ViewsB.own 1 rfl | exact ViewsB.own 2 rfl | exact ViewsB.own 3 rfl | exact ViewsB.own 4 rfl | exact ViewsB.own 5 rfl | assumption | exact ViewsB.nil _ | exact ViewsB.arr 0 rfl (by first | assumption | rfl | (simp; done)) (Nat.le_refl _) (by simp [maxLen]) | exact ViewsB.arr 1 rfl (by first | assumption | rfl | (simp; done)) (Nat.le_refl _) (by simp [maxLen]) | exact ViewsB.arr 2 rfl (by first | assumption | rfl | (simp; done)) (Nat.le_refl _) (by simp [maxLen]) | exact ViewsB.arr 3 rfl (by first | assumption | rfl | (simp; done)) (Nat.le_refl _) (by simp [maxLen]) | exact ViewsB.arr 4 rfl (by first | assumption | rfl | (simp; done)) (Nat.le_refl _) (by simp [maxLen]) | exact ViewsB.of_drop 1 (by assumption) | exact ViewsB.of_drop 2 (by assumption) | exact ViewsB.of_drop 3 (by assumption) | exact ViewsB.of_drop 4 (by assumption) | exact ViewsB.of_drop 5 (by assumption) | exact ViewsB.of_drop 6 (by assumption) | exact ViewsB.of_drop 7 (by assumption) | exact ViewsB.of_drop 8 (by assumption) | exact ViewsB.of_drop 9 (by assumption) | exact ViewsB.of_drop 10 (by assumption) | exact ViewsB.of_drop 11 (by assumption) | exact ViewsB.of_drop 12 (by assumption) | exact ViewsB.sub (by first | exact ViewsB.own 0 rfl | exact ViewsB.own 1 rfl | exact ViewsB.own 2 rfl | exact ViewsB.own 3 rfl | exact ViewsB.own 4 rfl | exact ViewsB.own 5 rfl | assumption | exact ViewsB.nil _ | exact ViewsB.arr 0 rfl (by first | assumption | rfl | (simp; done)) (Nat.le_refl _) (by simp [maxLen]) | exact ViewsB.arr 1 rfl (by first | assumption | rfl | (simp; done)) (Nat.le_refl _) (by simp [maxLen]) | exact ViewsB.arr 2 rfl (by first | assumption | rfl | (simp; done)) (Nat.le_refl _) (by simp [maxLen]) | exact ViewsB.arr 3 rfl (by first | assumption | rfl | (simp; done)) (Nat.le_refl _) (by simp [maxLen]) | exact ViewsB.arr 4 rfl (by first | assumption | rfl | (simp; done)) (Nat.le_refl _) (by simp [maxLen]) | exact ViewsB.of_drop 1 (by assumption) | exact ViewsB.of_drop 2 (by assumption) | exact ViewsB.of_drop 3 (by assumption) | exact ViewsB.of_drop 4 (by assumption) | exact ViewsB.of_drop 5 (by assumption) | exact ViewsB.of_drop 6 (by assumption) | exact ViewsB.of_drop 7 (by assumption) | exact ViewsB.of_drop 8 (by assumption) | exact ViewsB.of_drop 9 (by assumption) | exact ViewsB.of_drop 10 (by assumption) | exact ViewsB.of_drop 11 (by assumption) | exact ViewsB.of_drop 12 (by assumption)) (by omega) (by first | omega | (simp; done) | (simp; omega)))) rfl ?_
         clear h a w; intro a w h
         refine wv h (r_fieldAddr h 32 rfl K.u_pack_item rfl K.sz_S_uint8 rfl rfl) rfl ?_
         clear h a w; intro a w h
         refine wv h (r_ldN (v := it.x.v) h rfl K.u_S_uint8 rfl 2 rfl hcx) rfl ?_
         clear h a w; intro a w h
         refine wv h (r_lenB h rfl K.u_S_uint8 ((((hxv.cons _).cons _).cons _).cons _)) rfl ?_
         clear h a w; intro a w h
         refine wv h (r_bin h rfl rfl (B.lss_int)) rfl ?_
         clear h a w; intro a w h
         refine wnil (c_then ?_)
         refine c_condP (p := d.length < it.x.p.length) h rfl (by simp) (fun ht5 => ?_) (fun ht5 => ?_)
         ·
          have hn1 := numN_len9 (2 * d.length + 1) (by omega)
          rw [if_pos ⟨ht4.2, ht5⟩] at z4
          as_aux_lemma =>
           refine c_seq (c_region ?_)
           refine wv h (r_move h rfl) rfl ?_
           clear h a w; intro a w h
           refine wv h (r_move h rfl) rfl ?_
           clear h a w; intro a w h
           refine wv h (r_lenB h rfl K.u_S_uint8 (by first | exact ViewsB.own 0 rfl | exact ViewsB.own 1 rfl | exact ViewsB.own 2 rfl | exact ViewsB.own 3 rfl | exact ViewsB.own 4 rfl | exact ViewsB.own 5 rfl | assumption | exact ViewsB.nil _ | exact ViewsB.arr 0 rfl (by first | assumption | rfl | (simp; done)) (Nat.le_refl _) (by simp [maxLen]) | exact ViewsB.arr 1 rfl (by first | assumption | rfl | (simp; done)) (Nat.le_refl _) (by simp [maxLen]) | exact ViewsB.arr 2 rfl (by first | assumption | rfl | (simp; done)) (Nat.le_refl _) (by simp [maxLen]) | exact ViewsB.arr 3 rfl (by first | assumption | rfl | (simp; done)) (Nat.le_refl _) (by simp [maxLen]) | exact ViewsB.arr 4 rfl (by first | assumption | rfl | (simp; done)) (Nat.le_refl _) (by simp [maxLen]) | exact ViewsB.of_drop 1 (by assumption) | exact ViewsB.of_drop 2 (by assumption) | exact ViewsB.of_drop 3 (by assumption) | exact ViewsB.of_drop 4 (by assumption) | exact ViewsB.of_drop 5 (by assumption) | exact ViewsB.of_drop 6 (by assumption) | exact ViewsB.of_drop 7 (by assumption) | exact ViewsB.of_drop 8 (by assumption) | exact ViewsB.of_drop 9 (by assumption) | exact ViewsB.of_drop 10 (by assumption) | exact ViewsB.of_drop 11 (by assumption) | exact ViewsB.of_drop 12 (by assumption) | exact ViewsB.sub (by first | exact ViewsB.own 0 rfl | exact ViewsB.own 1 rfl | exact ViewsB.own 2 rfl | exact ViewsB.own 3 rfl | exact ViewsB.own 4 rfl | exact ViewsB.own 5 rfl | assumption | exact ViewsB.nil _ | exact ViewsB.arr 0 rfl (by first | assumption | rfl | (simp; done)) (Nat.le_refl _) (by simp [maxLen]) | exact ViewsB.arr 1 rfl (by first | assumption | rfl | (simp; done)) (Nat.le_refl _) (by simp [maxLen]) | exact ViewsB.arr 2 rfl (by first | assumption | rfl | (simp; done)) (Nat.le_refl _) (by simp [maxLen]) | exact ViewsB.arr 3 rfl (by first | assumption | rfl | (simp; done)) (Nat.le_refl _) (by simp [maxLen]) | exact ViewsB.arr 4 rfl (by first | assumption | rfl | (simp; done)) (Nat.le_refl _) (by simp [maxLen]) | exact ViewsB.of_drop 1 (by assumption) | exact ViewsB.of_drop 2 (by assumption) | exact ViewsB.of_drop 3 (by assumption) | exact ViewsB.of_drop 4 (by assumption) | exact ViewsB.of_drop 5 (by assumption) | exact ViewsB.of_drop 6 (by assumption) | exact ViewsB.of_drop 7 (by assumption) | exact ViewsB.of_drop 8 (by assumption) | exact ViewsB.of_drop 9 (by assumption) | exact ViewsB.of_drop 10 (by assumption) | exact ViewsB.of_drop 11 (by assumption) | exact ViewsB.of_drop 12 (by assumption)) (by omega) (by first | omega | (simp; done) | (simp; omega)))) rfl ?_
           clear h a w; intro a w h
           refine wv h (r_bin h rfl rfl (B.mul_i64 (by omega) (by omega))) rfl ?_
           clear h a w; intro a w h
           refine wv h (r_bin h rfl rfl (B.add_i64 (by omega) (by omega))) rfl ?_
           clear h a w; intro a w h
           rw [show (2 * (d.length : Int) + 1) = ((2 * d.length + 1 : Nat) : Int) by omega] at h
           refine wl rfl (op_call h rfl K.go_digit_Pen_Num (pen_Num s _ b15 acc (2 * d.length + 1) _ 1 rfl (by omega) (by omega) h.2) rfl ?_)
           clear h a w; intro z65 a w hz65 h
           (try simp only [List.set_cons_zero, List.set_cons_succ] at h)
           refine wv h (r_move h rfl) rfl ?_
           clear h a w; intro a w h
           refine wl rfl (op_call h rfl K.go_digit_Pen_Raw (pen_Raw s _ b15 v53 (acc ++ numN (2 * d.length + 1)) d _ 1 rfl (Views.own 0 rfl) (by simp only [List.length_append]; omega) h.2) rfl ?_)
           clear h a w; intro z67 a w hz67 h
           (try simp only [List.set_cons_zero, List.set_cons_succ] at h)
           refine wnil (c_then ?_)
           refine c_seq (c_region ?_)
           refine wv h (r_move h rfl) rfl ?_
           clear h a w; intro a w h
           refine wv h (r_bin h rfl rfl (B.add_i64 (by omega) (by omega))) rfl ?_
           clear h a w; intro a w h
           refine wv h (r_assign h rfl) rfl ?_
           clear h a w; intro a w h
           refine wnil (c_then ?_)
           refine c_exit ?_
           refine e_then ?_
           refine e_here ?_
           refine c_then ?_
           refine c_region ?_
           refine wv h (r_bin h rfl rfl (B.add_i64 (by omega) (by omega))) rfl ?_
           clear h a w; intro a w h
           refine wv h (r_move h rfl) rfl ?_
           clear h a w; intro a w h
           refine wnil ?_
           replace h := h.mem (fun q => (q.tail.front 1 rfl).tail)
           exact ⟨(i + 1, ch + 1, acc ++ numN (2 * d.length + 1) ++ d), h.keep [4, 5, 6, 22, 23, 24], ⟨ht2, by simp only; omega, by simp only [List.length_append]; omega, by rw [z4, prevP, if_neg (by omega), Nat.add_sub_cancel, hpi]⟩, by simp only; omega⟩
         ·
          refine c_skip ?_
          exact ⟨(), (h.keep [4, 5, 6, 8, 22, 23, 24]).drop 1, fun q => ht5 (by simpa [← hd] using q.2.2)⟩
       ·
        refine c_skip ?_
        exact ⟨(), h.keep [4, 5, 6, 8, 22, 23, 24], fun q => ht4 ⟨by
          rcases Nat.eq_zero_or_pos i with e | e
          · rw [e] at q; simp [prevP] at q
          · exact e, q.2.1⟩⟩
      ·
       clear h a w; intro z a w hz h
       rw [if_neg hz] at z4
       have hn2 := numN_len9 (2 * it.x.p.length) (by omega)
       refine c_seq (c_drawn 9 K.mixed rfl h ?_)
       clear h a w; intro a w h
       have hD : Paid s w [] := Paid.nil
       refine d_take0 (listed' := #[true, false, false, false, false, false, false, false, false]) h hD 0 (by as_aux_lemma => kernel_rfl) rfl (by as_aux_lemma => kernel_rfl) (by as_aux_lemma => kernel_rfl) (by as_aux_lemma => kernel_rfl) (fun _ _ _ _ hh => hh) (fun w h => by first | exact r_move h rfl) rfl ?_
       clear hD h a w; intro a w h hD
       refine d_take0 (listed' := #[true, true, false, false, false, false, false, false, false]) h hD 1 (by as_aux_lemma => kernel_rfl) rfl (by as_aux_lemma => kernel_rfl) (by as_aux_lemma => kernel_rfl) (by as_aux_lemma => kernel_rfl) (fun _ _ _ _ hh => hh) (fun w h => by first | exact r_fieldAddr h 32 rfl K.u_pack_item rfl K.sz_S_uint8 rfl rfl) rfl ?_
       clear hD h a w; intro a w h hD
       refine d_take (listed' := #[true, true, true, false, false, false, false, false, false]) h hD 2 ((Blk b8 (.cells ⟨cellsI it⟩ t_pack_item) :: OwnM 33 cellsI v11 its :: F)) (by as_aux_lemma => kernel_rfl) rfl (by as_aux_lemma => kernel_rfl) (by as_aux_lemma => kernel_rfl) (by as_aux_lemma => kernel_rfl) (fun _ _ _ _ hh => hh) (by first | exact h.2 | exact h.2.drop 1 | exact h.2.drop 2 | exact h.2.drop 3 | exact h.2.drop 4 | exact h.2.drop 5 | exact h.2.drop 6 | exact h.2.drop 7) (fun w hw => by first | exact r_ldN (v := it.x.v) /- Views -/ ⟨h.1, hw⟩ rfl K.u_S_uint8 rfl 0 rfl hcx) rfl ?_
       clear hD h a w; intro a w h hD
       refine d_take (listed' := #[true, true, true, true, false, false, false, false, false]) h hD 3 (F) (by as_aux_lemma => kernel_rfl) rfl (by as_aux_lemma => kernel_rfl) (by as_aux_lemma => kernel_rfl) (by as_aux_lemma => kernel_rfl) (fun _ _ _ _ hh => hh) (by first | exact h.2 | exact h.2.drop 1 | exact h.2.drop 2 | exact h.2.drop 3 | exact h.2.drop 4 | exact h.2.drop 5 | exact h.2.drop 6 | exact h.2.drop 7) (fun w hw => by first | exact r_lenB /- Views -/ ⟨h.1, hw⟩ rfl K.u_S_uint8 hxv) rfl ?_
       clear hD h a w; intro a w h hD
       refine d_take0 (listed' := #[true, true, true, true, true, false, false, false, false]) h hD 4 (by as_aux_lemma => kernel_rfl) rfl (by as_aux_lemma => kernel_rfl) (by as_aux_lemma => kernel_rfl) (by as_aux_lemma => kernel_rfl) (fun _ _ _ _ hh => hh) (fun w h => by first | exact r_bin h rfl rfl (B.mul_i64 (by omega) (by omega))) rfl ?_
       clear hD h a w; intro a w h hD
       rw [show (2 * (it.x.p.length : Int)) = ((2 * it.x.p.length : Nat) : Int) by omega] at h
       refine d_take0 (listed' := #[true, true, true, true, true, false, true, false, false]) h hD 6 (by as_aux_lemma => kernel_rfl) rfl (by as_aux_lemma => kernel_rfl) (by as_aux_lemma => kernel_rfl) (by as_aux_lemma => kernel_rfl) (fun _ _ _ _ hh => hh) (fun w h => by first | exact r_fieldAddr h 32 rfl K.u_pack_item rfl K.sz_S_uint8 rfl rfl) rfl ?_
       clear hD h a w; intro a w h hD
       refine d_take (listed' := #[true, true, true, true, true, false, true, true, false]) h hD 7 ((Blk b8 (.cells ⟨cellsI it⟩ t_pack_item) :: OwnM 33 cellsI v11 its :: F)) (by as_aux_lemma => kernel_rfl) rfl (by as_aux_lemma => kernel_rfl) (by as_aux_lemma => kernel_rfl) (by as_aux_lemma => kernel_rfl) (fun _ _ _ _ hh => hh) (by first | exact h.2 | exact h.2.drop 1 | exact h.2.drop 2 | exact h.2.drop 3 | exact h.2.drop 4 | exact h.2.drop 5 | exact h.2.drop 6 | exact h.2.drop 7) (fun w hw => by first | exact r_ldN (v := it.x.v) /- Views -/ ⟨h.1, hw⟩ rfl K.u_S_uint8 rfl 0 rfl hcx) rfl ?_
       clear hD h a w; intro a w h hD
       refine d_only (listed' := #[true, true, true, true, true, true, true, true, false]) 5 [true, true, true] (by as_aux_lemma => kernel_rfl) rfl rfl (by as_aux_lemma => kernel_rfl) (by as_aux_lemma => kernel_rfl) ?_
       refine op_call h rfl K.go_digit_Pen_Num (pen_Num s _ b15 acc (2 * it.x.p.length) _ 0 rfl (by omega) (by omega) h.2) rfl ?_
       clear hD h a w; intro z75 a w hz75 h
       (try simp only [List.set_cons_zero, List.set_cons_succ] at h)
       refine d_pay (Paid.cons (by first | exact h.2 | exact h.2.drop 1 | exact h.2.drop 2 | exact h.2.drop 3 | exact h.2.drop 4 | exact h.2.drop 5 | exact h.2.drop 6 | exact h.2.drop 7) (Paid.cons (by first | exact h.2 | exact h.2.drop 1 | exact h.2.drop 2 | exact h.2.drop 3 | exact h.2.drop 4 | exact h.2.drop 5 | exact h.2.drop 6 | exact h.2.drop 7) (Paid.cons (by first | exact h.2 | exact h.2.drop 1 | exact h.2.drop 2 | exact h.2.drop 3 | exact h.2.drop 4 | exact h.2.drop 5 | exact h.2.drop 6 | exact h.2.drop 7) (Paid.nil)))) (fun hD => ?_)
       refine d_only (listed' := #[true, true, true, true, true, true, true, true, true]) 8 [false, true, true] (by as_aux_lemma => kernel_rfl) rfl rfl (by as_aux_lemma => kernel_rfl) (by as_aux_lemma => kernel_rfl) ?_
       refine op_call h rfl K.go_digit_Pen_Raw (pen_Raw s _ b15 it.x.v (acc ++ numN (2 * it.x.p.length)) it.x.p (PenI b15 (acc ++ numN (2 * it.x.p.length)) :: Blk b8 (.cells ⟨cellsI it⟩ t_pack_item) :: OwnM 33 cellsI v11 its :: F) 0 rfl (show ViewsB (Blk b8 (.cells ⟨cellsI it⟩ t_pack_item) :: OwnM 33 cellsI v11 its :: F) it.x.v it.x.p from (hxv.cons _).cons _) (by simp only [List.length_append]; omega) h.2) rfl ?_
       clear hD h a w; intro z78 a w hz78 h
       (try simp only [List.set_cons_zero, List.set_cons_succ] at h)
       refine d_pay (Paid.cons (by first | exact h.2 | exact h.2.drop 1 | exact h.2.drop 2 | exact h.2.drop 3 | exact h.2.drop 4 | exact h.2.drop 5 | exact h.2.drop 6 | exact h.2.drop 7) (Paid.cons (by first | exact h.2 | exact h.2.drop 1 | exact h.2.drop 2 | exact h.2.drop 3 | exact h.2.drop 4 | exact h.2.drop 5 | exact h.2.drop 6 | exact h.2.drop 7) (Paid.nil))) (fun hD => ?_)
       refine d_done (by kernel_rfl) ?_
       clear hD
       refine c_then ?_
       refine c_region ?_
       refine wv h (r_assign h rfl) rfl ?_
       clear h a w; intro a w h
       refine wnil ?_
       refine b_normal ?_
       refine c_then ?_
       refine c_region ?_
       refine wv h (r_bin h rfl rfl (B.add_i64 (by omega) (by omega))) rfl ?_
       clear h a w; intro a w h
       refine wv h (r_move h rfl) rfl ?_
       clear h a w; intro a w h
       refine wnil ?_
       replace h := h.mem (fun q => (q.front 1 rfl).tail)
       exact ⟨(i + 1, 0, acc ++ numN (2 * it.x.p.length) ++ it.x.p), h.keep [4, 5, 6, 22, 23, 24], ⟨ht2, by simp only; omega, by simp only [List.length_append]; omega, by rw [z4, prevP, if_neg (by omega), Nat.add_sub_cancel, hpi]⟩, by simp only; omega⟩
    ·
     rw [List.drop_eq_nil_of_le (by omega), encG] at z4
     have e : encP ps = some (sealP acc) := by rw [encP, if_neg (by omega), z4]; rfl
     obtain ⟨pv, h2⟩ := PenI_open h.2
     replace h : St _ _ _ _ _ _ := ⟨h.1, h2⟩
     clear h2
     have hb32 : UInt32.ofInt ((crcN acc).toNat : Int) = crcN acc := by rw [← UInt32.toNat_inj, ofInt32]; have := (crcN acc).toNat_lt; omega
     have hf4 : (fourN (crcN acc)).length = 4 := rfl
     refine c_exit ?_
     refine e_then ?_
     refine e_then ?_
     refine e_here ?_
     refine c_then ?_
     refine c_seq (c_drawn 14 K.mixed rfl h ?_)
     clear h a w; intro a w h
     have hD : Paid s w [] := Paid.nil
     refine d_take0 (listed' := #[true, false, false, false, false, false, false, false, false, false, false, false, false, false]) h hD 0 (by as_aux_lemma => kernel_rfl) rfl (by as_aux_lemma => kernel_rfl) (by as_aux_lemma => kernel_rfl) (by as_aux_lemma => kernel_rfl) (fun _ _ _ _ hh => hh) (fun w h => by first | exact r_move h rfl) rfl ?_
     clear hD h a w; intro a w h hD
     refine d_take0 (listed' := #[true, true, false, false, false, false, false, false, false, false, false, false, false, false]) h hD 1 (by as_aux_lemma => kernel_rfl) rfl (by as_aux_lemma => kernel_rfl) (by as_aux_lemma => kernel_rfl) (by as_aux_lemma => kernel_rfl) (fun _ _ _ _ hh => hh) (fun w h => by first | exact r_nilCheck h rfl) rfl ?_
     clear hD h a w; intro a w h hD
     refine d_take0 (listed' := #[true, true, true, false, false, false, false, false, false, false, false, false, false, false]) h hD 2 (by as_aux_lemma => kernel_rfl) rfl (by as_aux_lemma => kernel_rfl) (by as_aux_lemma => kernel_rfl) (by as_aux_lemma => kernel_rfl) (fun _ _ _ _ hh => hh) (fun w h => by first | exact r_fieldAddr0 h rfl K.u_digit_Pen rfl K.sz_S_uint8 rfl rfl) rfl ?_
     clear hD h a w; intro a w h hD
     refine d_take (listed' := #[true, true, true, true, false, false, false, false, false, false, false, false, false, false]) h hD 3 _ (by as_aux_lemma => kernel_rfl) rfl (by as_aux_lemma => kernel_rfl) (by as_aux_lemma => kernel_rfl) (by as_aux_lemma => kernel_rfl) (fun _ _ _ _ hh => hh) h.2 (fun w hw => by first | exact r_ldN ⟨h.1, hw⟩ rfl K.u_S_uint8 rfl 0 rfl rfl | exact r_ldN ⟨h.1, hw⟩ rfl K.u_S_uint8 rfl 1 rfl rfl | exact r_ldN ⟨h.1, hw⟩ rfl K.u_S_uint8 rfl 2 rfl rfl | exact r_ldN ⟨h.1, hw⟩ rfl K.u_S_uint8 rfl 3 rfl rfl | exact r_ldN ⟨h.1, hw⟩ rfl K.u_S_uint8 rfl 4 rfl rfl | exact r_ldN ⟨h.1, hw⟩ rfl K.u_S_uint8 rfl 5 rfl rfl | exact r_ldN ⟨h.1, hw⟩ rfl K.u_S_uint8 rfl 6 rfl rfl | exact r_ldC (o := 0) ⟨h.1, hw⟩ rfl K.u_S_uint8 rfl 0 rfl | exact r_ldC (o := 0) ⟨h.1, hw⟩ rfl K.u_S_uint8 rfl 1 rfl | exact r_ldC (o := 0) ⟨h.1, hw⟩ rfl K.u_S_uint8 rfl 2 rfl | exact r_ldC (o := 0) ⟨h.1, hw⟩ rfl K.u_S_uint8 rfl 3 rfl | exact r_ldC (o := 0) ⟨h.1, hw⟩ rfl K.u_S_uint8 rfl 4 rfl | exact r_ldC (o := 0) ⟨h.1, hw⟩ rfl K.u_S_uint8 rfl 5 rfl | exact r_ldC (o := 0) ⟨h.1, hw⟩ rfl K.u_S_uint8 rfl 6 rfl | exact r_load ⟨h.1, hw⟩ rfl K.u_S_uint8 rfl 0 rfl rfl | exact r_load ⟨h.1, hw⟩ rfl K.u_S_uint8 rfl 1 rfl rfl | exact r_load ⟨h.1, hw⟩ rfl K.u_S_uint8 rfl 2 rfl rfl | exact r_load ⟨h.1, hw⟩ rfl K.u_S_uint8 rfl 3 rfl rfl | exact r_load ⟨h.1, hw⟩ rfl K.u_S_uint8 rfl 4 rfl rfl | exact r_load ⟨h.1, hw⟩ rfl K.u_S_uint8 rfl 5 rfl rfl | exact r_load1 ⟨h.1, hw⟩ rfl K.u_S_uint8 rfl (by assumption)) rfl ?_
     clear hD h a w; intro a w h hD
     refine d_take0 (listed' := #[true, true, true, true, true, false, false, false, false, false, false, false, false, false]) h hD 4 (by as_aux_lemma => kernel_rfl) rfl (by as_aux_lemma => kernel_rfl) (by as_aux_lemma => kernel_rfl) (by as_aux_lemma => kernel_rfl) (fun _ _ _ _ hh => hh) (fun w h => by first | exact r_move h rfl) rfl ?_
     clear hD h a w; intro a w h hD
     refine d_take0 (listed' := #[true, true, true, true, true, true, false, false, false, false, false, false, false, false]) h hD 5 (by as_aux_lemma => kernel_rfl) rfl (by as_aux_lemma => kernel_rfl) (by as_aux_lemma => kernel_rfl) (by as_aux_lemma => kernel_rfl) (fun _ _ _ _ hh => hh) (fun w h => by first | exact r_nilCheck h rfl) rfl ?_
     clear hD h a w; intro a w h hD
     refine d_take0 (listed' := #[true, true, true, true, true, true, true, false, false, false, false, false, false, false]) h hD 6 (by as_aux_lemma => kernel_rfl) rfl (by as_aux_lemma => kernel_rfl) (by as_aux_lemma => kernel_rfl) (by as_aux_lemma => kernel_rfl) (fun _ _ _ _ hh => hh) (fun w h => by first | exact r_fieldAddr0 h rfl K.u_digit_Pen rfl K.sz_S_uint8 rfl rfl) rfl ?_
     clear hD h a w; intro a w h hD
     refine d_take (listed' := #[true, true, true, true, true, true, true, true, false, false, false, false, false, false]) h hD 7 _ (by as_aux_lemma => kernel_rfl) rfl (by as_aux_lemma => kernel_rfl) (by as_aux_lemma => kernel_rfl) (by as_aux_lemma => kernel_rfl) (fun _ _ _ _ hh => hh) h.2 (fun w hw => by first | exact r_ldN ⟨h.1, hw⟩ rfl K.u_S_uint8 rfl 0 rfl rfl | exact r_ldN ⟨h.1, hw⟩ rfl K.u_S_uint8 rfl 1 rfl rfl | exact r_ldN ⟨h.1, hw⟩ rfl K.u_S_uint8 rfl 2 rfl rfl | exact r_ldN ⟨h.1, hw⟩ rfl K.u_S_uint8 rfl 3 rfl rfl | exact r_ldN ⟨h.1, hw⟩ rfl K.u_S_uint8 rfl 4 rfl rfl | exact r_ldN ⟨h.1, hw⟩ rfl K.u_S_uint8 rfl 5 rfl rfl | exact r_ldN ⟨h.1, hw⟩ rfl K.u_S_uint8 rfl 6 rfl rfl | exact r_ldC (o := 0) ⟨h.1, hw⟩ rfl K.u_S_uint8 rfl 0 rfl | exact r_ldC (o := 0) ⟨h.1, hw⟩ rfl K.u_S_uint8 rfl 1 rfl | exact r_ldC (o := 0) ⟨h.1, hw⟩ rfl K.u_S_uint8 rfl 2 rfl | exact r_ldC (o := 0) ⟨h.1, hw⟩ rfl K.u_S_uint8 rfl 3 rfl | exact r_ldC (o := 0) ⟨h.1, hw⟩ rfl K.u_S_uint8 rfl 4 rfl | exact r_ldC (o := 0) ⟨h.1, hw⟩ rfl K.u_S_uint8 rfl 5 rfl | exact r_ldC (o := 0) ⟨h.1, hw⟩ rfl K.u_S_uint8 rfl 6 rfl | exact r_load ⟨h.1, hw⟩ rfl K.u_S_uint8 rfl 0 rfl rfl | exact r_load ⟨h.1, hw⟩ rfl K.u_S_uint8 rfl 1 rfl rfl | exact r_load ⟨h.1, hw⟩ rfl K.u_S_uint8 rfl 2 rfl rfl | exact r_load ⟨h.1, hw⟩ rfl K.u_S_uint8 rfl 3 rfl rfl | exact r_load ⟨h.1, hw⟩ rfl K.u_S_uint8 rfl 4 rfl rfl | exact r_load ⟨h.1, hw⟩ rfl K.u_S_uint8 rfl 5 rfl rfl | exact r_load1 ⟨h.1, hw⟩ rfl K.u_S_uint8 rfl (by assumption)) rfl ?_
     clear hD h a w; intro a w h hD
     refine d_only (listed' := #[true, true, true, true, true, true, true, true, true, false, false, false, false, false]) 8 [false, true] (by as_aux_lemma => kernel_rfl) rfl rfl (by as_aux_lemma => kernel_rfl) (by as_aux_lemma => kernel_rfl) ?_
     refine op_call h rfl K.go_check_Of (check_of s _ pv acc _ (((hC.cons _).cons _).cons _) (Views.own 1 rfl) h.2) rfl ?_
     clear hD h a w; intro x a w hx h
     (try simp only [List.set_cons_zero, List.set_cons_succ] at h)
     refine d_pay (Paid.cons (by first | exact h.2 | exact h.2.drop 1 | exact h.2.drop 2 | exact h.2.drop 3 | exact h.2.drop 4 | exact h.2.drop 5 | exact h.2.drop 6 | exact h.2.drop 7) (Paid.nil)) (fun hD => ?_)
     refine d_take0 (listed' := #[true, true, true, true, true, true, true, true, true, true, false, false, false, false]) h hD 9 (by as_aux_lemma => kernel_rfl) rfl (by as_aux_lemma => kernel_rfl) (by as_aux_lemma => kernel_rfl) (by as_aux_lemma => kernel_rfl) (fun _ _ _ _ hh => hh) (fun w h => by first | exact r_conv h rfl K.u_uint32 K.u_int (C.i64_u32) ) rfl ?_
     clear hD h a w; intro a w h hD
     refine d_only (listed' := #[true, true, true, true, true, true, true, true, true, true, true, false, false, false]) 10 [true] (by as_aux_lemma => kernel_rfl) rfl rfl (by as_aux_lemma => kernel_rfl) (by as_aux_lemma => kernel_rfl) ?_
     refine op_call h rfl K.go_check_Four (check_four s _ ((crcN acc).toNat : Int) _ h.2) rfl ?_
     clear hD h a w; intro v90 a w hz90 h
     (try simp only [List.set_cons_zero, List.set_cons_succ] at h)
     rw [hb32] at h
     refine d_pay (Paid.cons (by first | exact h.2 | exact h.2.drop 1 | exact h.2.drop 2 | exact h.2.drop 3 | exact h.2.drop 4 | exact h.2.drop 5 | exact h.2.drop 6 | exact h.2.drop 7) (Paid.nil)) (fun hD => ?_)
     refine d_only (listed' := #[true, true, true, true, true, true, true, true, true, true, true, true, false, false]) 11 [false] (by as_aux_lemma => kernel_rfl) rfl rfl (by as_aux_lemma => kernel_rfl) (by as_aux_lemma => kernel_rfl) ?_
     first
          | (refine op_appendbs h rfl rfl K.u_S_uint8 K.sz_uint8 K.z_uint8 rfl rfl 0 rfl (Src.bytes K.u_S_uint8 (by first | exact ViewsB.own 0 rfl | exact ViewsB.own 1 rfl | exact ViewsB.own 2 rfl | exact ViewsB.own 3 rfl | exact ViewsB.own 4 rfl | exact ViewsB.own 5 rfl | assumption | exact ViewsB.nil _ | exact ViewsB.arr 0 rfl (by first | assumption | rfl | (simp; done)) (Nat.le_refl _) (by simp [maxLen]) | exact ViewsB.arr 1 rfl (by first | assumption | rfl | (simp; done)) (Nat.le_refl _) (by simp [maxLen]) | exact ViewsB.arr 2 rfl (by first | assumption | rfl | (simp; done)) (Nat.le_refl _) (by simp [maxLen]) | exact ViewsB.arr 3 rfl (by first | assumption | rfl | (simp; done)) (Nat.le_refl _) (by simp [maxLen]) | exact ViewsB.arr 4 rfl (by first | assumption | rfl | (simp; done)) (Nat.le_refl _) (by simp [maxLen]) | exact ViewsB.of_drop 1 (by assumption) | exact ViewsB.of_drop 2 (by assumption) | exact ViewsB.of_drop 3 (by assumption) | exact ViewsB.of_drop 4 (by assumption) | exact ViewsB.of_drop 5 (by assumption) | exact ViewsB.of_drop 6 (by assumption) | exact ViewsB.of_drop 7 (by assumption) | exact ViewsB.of_drop 8 (by assumption) | exact ViewsB.of_drop 9 (by assumption) | exact ViewsB.of_drop 10 (by assumption) | exact ViewsB.of_drop 11 (by assumption) | exact ViewsB.of_drop 12 (by assumption) | exact ViewsB.sub (by first | exact ViewsB.own 0 rfl | exact ViewsB.own 1 rfl | exact ViewsB.own 2 rfl | exact ViewsB.own 3 rfl | exact ViewsB.own 4 rfl | exact ViewsB.own 5 rfl | assumption | exact ViewsB.nil _ | exact ViewsB.arr 0 rfl (by first | assumption | rfl | (simp; done)) (Nat.le_refl _) (by simp [maxLen]) | exact ViewsB.arr 1 rfl (by first | assumption | rfl | (simp; done)) (Nat.le_refl _) (by simp [maxLen]) | exact ViewsB.arr 2 rfl (by first | assumption | rfl | (simp; done)) (Nat.le_refl _) (by simp [maxLen]) | exact ViewsB.arr 3 rfl (by first | assumption | rfl | (simp; done)) (Nat.le_refl _) (by simp [maxLen]) | exact ViewsB.arr 4 rfl (by first | assumption | rfl | (simp; done)) (Nat.le_refl _) (by simp [maxLen]) | exact ViewsB.of_drop 1 (by assumption) | exact ViewsB.of_drop 2 (by assumption) | exact ViewsB.of_drop 3 (by assumption) | exact ViewsB.of_drop 4 (by assumption) | exact ViewsB.of_drop 5 (by assumption) | exact ViewsB.of_drop 6 (by assumption) | exact ViewsB.of_drop 7 (by assumption) | exact ViewsB.of_drop 8 (by assumption) | exact ViewsB.of_drop 9 (by assumption) | exact ViewsB.of_drop 10 (by assumption) | exact ViewsB.of_drop 11 (by assumption) | exact ViewsB.of_drop 12 (by assumption)) (by omega) (by first | omega | (simp; done) | (simp; omega))) h.2) (by first | omega | (simp only [List.length_cons, List.length_nil]; omega) | (simp; done) | (simp; omega)) rfl ?_)
          | (refine op_appendbs h rfl rfl K.u_S_uint8 K.sz_uint8 K.z_uint8 rfl rfl 1 rfl (Src.bytes K.u_S_uint8 (by first | exact ViewsB.own 0 rfl | exact ViewsB.own 1 rfl | exact ViewsB.own 2 rfl | exact ViewsB.own 3 rfl | exact ViewsB.own 4 rfl | exact ViewsB.own 5 rfl | assumption | exact ViewsB.nil _ | exact ViewsB.arr 0 rfl (by first | assumption | rfl | (simp; done)) (Nat.le_refl _) (by simp [maxLen]) | exact ViewsB.arr 1 rfl (by first | assumption | rfl | (simp; done)) (Nat.le_refl _) (by simp [maxLen]) | exact ViewsB.arr 2 rfl (by first | assumption | rfl | (simp; done)) (Nat.le_refl _) (by simp [maxLen]) | exact ViewsB.arr 3 rfl (by first | assumption | rfl | (simp; done)) (Nat.le_refl _) (by simp [maxLen]) | exact ViewsB.arr 4 rfl (by first | assumption | rfl | (simp; done)) (Nat.le_refl _) (by simp [maxLen]) | exact ViewsB.of_drop 1 (by assumption) | exact ViewsB.of_drop 2 (by assumption) | exact ViewsB.of_drop 3 (by assumption) | exact ViewsB.of_drop 4 (by assumption) | exact ViewsB.of_drop 5 (by assumption) | exact ViewsB.of_drop 6 (by assumption) | exact ViewsB.of_drop 7 (by assumption) | exact ViewsB.of_drop 8 (by assumption) | exact ViewsB.of_drop 9 (by assumption) | exact ViewsB.of_drop 10 (by assumption) | exact ViewsB.of_drop 11 (by assumption) | exact ViewsB.of_drop 12 (by assumption) | exact ViewsB.sub (by first | exact ViewsB.own 0 rfl | exact ViewsB.own 1 rfl | exact ViewsB.own 2 rfl | exact ViewsB.own 3 rfl | exact ViewsB.own 4 rfl | exact ViewsB.own 5 rfl | assumption | exact ViewsB.nil _ | exact ViewsB.arr 0 rfl (by first | assumption | rfl | (simp; done)) (Nat.le_refl _) (by simp [maxLen]) | exact ViewsB.arr 1 rfl (by first | assumption | rfl | (simp; done)) (Nat.le_refl _) (by simp [maxLen]) | exact ViewsB.arr 2 rfl (by first | assumption | rfl | (simp; done)) (Nat.le_refl _) (by simp [maxLen]) | exact ViewsB.arr 3 rfl (by first | assumption | rfl | (simp; done)) (Nat.le_refl _) (by simp [maxLen]) | exact ViewsB.arr 4 rfl (by first | assumption | rfl | (simp; done)) (Nat.le_refl _) (by simp [maxLen]) | exact ViewsB.of_drop 1 (by assumption) | exact ViewsB.of_drop 2 (by assumption) | exact ViewsB.of_drop 3 (by assumption) | exact ViewsB.of_drop 4 (by assumption) | exact ViewsB.of_drop 5 (by assumption) | exact ViewsB.of_drop 6 (by assumption) | exact ViewsB.of_drop 7 (by assumption) | exact ViewsB.of_drop 8 (by assumption) | exact ViewsB.of_drop 9 (by assumption) | exact ViewsB.of_drop 10 (by assumption) | exact ViewsB.of_drop 11 (by assumption) | exact ViewsB.of_drop 12 (by assumption)) (by omega) (by first | omega | (simp; done) | (simp; omega))) h.2) (by first | omega | (simp only [List.length_cons, List.length_nil]; omega) | (simp; done) | (simp; omega)) rfl ?_)
          | (refine op_appendbs h rfl rfl K.u_S_uint8 K.sz_uint8 K.z_uint8 rfl rfl 2 rfl (Src.bytes K.u_S_uint8 (by first | exact ViewsB.own 0 rfl | exact ViewsB.own 1 rfl | exact ViewsB.own 2 rfl | exact ViewsB.own 3 rfl | exact ViewsB.own 4 rfl | exact ViewsB.own 5 rfl | assumption | exact ViewsB.nil _ | exact ViewsB.arr 0 rfl (by first | assumption | rfl | (simp; done)) (Nat.le_refl _) (by simp [maxLen]) | exact ViewsB.arr 1 rfl (by first | assumption | rfl | (simp; done)) (Nat.le_refl _) (by simp [maxLen]) | exact ViewsB.arr 2 rfl (by first | assumption | rfl | (simp; done)) (Nat.le_refl _) (by simp [maxLen]) | exact ViewsB.arr 3 rfl (by first | assumption | rfl | (simp; done)) (Nat.le_refl _) (by simp [maxLen]) | exact ViewsB.arr 4 rfl (by first | assumption | rfl | (simp; done)) (Nat.le_refl _) (by simp [maxLen]) | exact ViewsB.of_drop 1 (by assumption) | exact ViewsB.of_drop 2 (by assumption) | exact ViewsB.of_drop 3 (by assumption) | exact ViewsB.of_drop 4 (by assumption) | exact ViewsB.of_drop 5 (by assumption) | exact ViewsB.of_drop 6 (by assumption) | exact ViewsB.of_drop 7 (by assumption) | exact ViewsB.of_drop 8 (by assumption) | exact ViewsB.of_drop 9 (by assumption) | exact ViewsB.of_drop 10 (by assumption) | exact ViewsB.of_drop 11 (by assumption) | exact ViewsB.of_drop 12 (by assumption) | exact ViewsB.sub (by first | exact ViewsB.own 0 rfl | exact ViewsB.own 1 rfl | exact ViewsB.own 2 rfl | exact ViewsB.own 3 rfl | exact ViewsB.own 4 rfl | exact ViewsB.own 5 rfl | assumption | exact ViewsB.nil _ | exact ViewsB.arr 0 rfl (by first | assumption | rfl | (simp; done)) (Nat.le_refl _) (by simp [maxLen]) | exact ViewsB.arr 1 rfl (by first | assumption | rfl | (simp; done)) (Nat.le_refl _) (by simp [maxLen]) | exact ViewsB.arr 2 rfl (by first | assumption | rfl | (simp; done)) (Nat.le_refl _) (by simp [maxLen]) | exact ViewsB.arr 3 rfl (by first | assumption | rfl | (simp; done)) (Nat.le_refl _) (by simp [maxLen]) | exact ViewsB.arr 4 rfl (by first | assumption | rfl | (simp; done)) (Nat.le_refl _) (by simp [maxLen]) | exact ViewsB.of_drop 1 (by assumption) | exact ViewsB.of_drop 2 (by assumption) | exact ViewsB.of_drop 3 (by assumption) | exact ViewsB.of_drop 4 (by assumption) | exact ViewsB.of_drop 5 (by assumption) | exact ViewsB.of_drop 6 (by assumption) | exact ViewsB.of_drop 7 (by assumption) | exact ViewsB.of_drop 8 (by assumption) | exact ViewsB.of_drop 9 (by assumption) | exact ViewsB.of_drop 10 (by assumption) | exact ViewsB.of_drop 11 (by assumption) | exact ViewsB.of_drop 12 (by assumption)) (by omega) (by first | omega | (simp; done) | (simp; omega))) h.2) (by first | omega | (simp only [List.length_cons, List.length_nil]; omega) | (simp; done) | (simp; omega)) rfl ?_)
          | (refine op_appendbs h rfl rfl K.u_S_uint8 K.sz_uint8 K.z_uint8 rfl rfl 3 rfl (Src.bytes K.u_S_uint8 (by first | exact ViewsB.own 0 rfl | exact ViewsB.own 1 rfl | exact ViewsB.own 2 rfl | exact ViewsB.own 3 rfl | exact ViewsB.own 4 rfl | exact ViewsB.own 5 rfl | assumption | exact ViewsB.nil _ | exact ViewsB.arr 0 rfl (by first | assumption | rfl | (simp; done)) (Nat.le_refl _) (by simp [maxLen]) | exact ViewsB.arr 1 rfl (by first | assumption | rfl | (simp; done)) (Nat.le_refl _) (by simp [maxLen]) | exact ViewsB.arr 2 rfl (by first | assumption | rfl | (simp; done)) (Nat.le_refl _) (by simp [maxLen]) | exact ViewsB.arr 3 rfl (by first | assumption | rfl | (simp; done)) (Nat.le_refl _) (by simp [maxLen]) | exact ViewsB.arr 4 rfl (by first | assumption | rfl | (simp; done)) (Nat.le_refl _) (by simp [maxLen]) | exact ViewsB.of_drop 1 (by assumption) | exact ViewsB.of_drop 2 (by assumption) | exact ViewsB.of_drop 3 (by assumption) | exact ViewsB.of_drop 4 (by assumption) | exact ViewsB.of_drop 5 (by assumption) | exact ViewsB.of_drop 6 (by assumption) | exact ViewsB.of_drop 7 (by assumption) | exact ViewsB.of_drop 8 (by assumption) | exact ViewsB.of_drop 9 (by assumption) | exact ViewsB.of_drop 10 (by assumption) | exact ViewsB.of_drop 11 (by assumption) | exact ViewsB.of_drop 12 (by assumption) | exact ViewsB.sub (by first | exact ViewsB.own 0 rfl | exact ViewsB.own 1 rfl | exact ViewsB.own 2 rfl | exact ViewsB.own 3 rfl | exact ViewsB.own 4 rfl | exact ViewsB.own 5 rfl | assumption | exact ViewsB.nil _ | exact ViewsB.arr 0 rfl (by first | assumption | rfl | (simp; done)) (Nat.le_refl _) (by simp [maxLen]) | exact ViewsB.arr 1 rfl (by first | assumption | rfl | (simp; done)) (Nat.le_refl _) (by simp [maxLen]) | exact ViewsB.arr 2 rfl (by first | assumption | rfl | (simp; done)) (Nat.le_refl _) (by simp [maxLen]) | exact ViewsB.arr 3 rfl (by first | assumption | rfl | (simp; done)) (Nat.le_refl _) (by simp [maxLen]) | exact ViewsB.arr 4 rfl (by first | assumption | rfl | (simp; done)) (Nat.le_refl _) (by simp [maxLen]) | exact ViewsB.of_drop 1 (by assumption) | exact ViewsB.of_drop 2 (by assumption) | exact ViewsB.of_drop 3 (by assumption) | exact ViewsB.of_drop 4 (by assumption) | exact ViewsB.of_drop 5 (by assumption) | exact ViewsB.of_drop 6 (by assumption) | exact ViewsB.of_drop 7 (by assumption) | exact ViewsB.of_drop 8 (by assumption) | exact ViewsB.of_drop 9 (by assumption) | exact ViewsB.of_drop 10 (by assumption) | exact ViewsB.of_drop 11 (by assumption) | exact ViewsB.of_drop 12 (by assumption)) (by omega) (by first | omega | (simp; done) | (simp; omega))) h.2) (by first | omega | (simp only [List.length_cons, List.length_nil]; omega) | (simp; done) | (simp; omega)) rfl ?_)
          | (refine op_appendbs h rfl rfl K.u_S_uint8 K.sz_uint8 K.z_uint8 rfl rfl 4 rfl (Src.bytes K.u_S_uint8 (by first | exact ViewsB.own 0 rfl | exact ViewsB.own 1 rfl | exact ViewsB.own 2 rfl | exact ViewsB.own 3 rfl | exact ViewsB.own 4 rfl | exact ViewsB.own 5 rfl | assumption | exact ViewsB.nil _ | exact ViewsB.arr 0 rfl (by first | assumption | rfl | (simp; done)) (Nat.le_refl _) (by simp [maxLen]) | exact ViewsB.arr 1 rfl (by first | assumption | rfl | (simp; done)) (Nat.le_refl _) (by simp [maxLen]) | exact ViewsB.arr 2 rfl (by first | assumption | rfl | (simp; done)) (Nat.le_refl _) (by simp [maxLen]) | exact ViewsB.arr 3 rfl (by first | assumption | rfl | (simp; done)) (Nat.le_refl _) (by simp [maxLen]) | exact ViewsB.arr 4 rfl (by first | assumption | rfl | (simp; done)) (Nat.le_refl _) (by simp [maxLen]) | exact ViewsB.of_drop 1 (by assumption) | exact ViewsB.of_drop 2 (by assumption) | exact ViewsB.of_drop 3 (by assumption) | exact ViewsB.of_drop 4 (by assumption) | exact ViewsB.of_drop 5 (by assumption) | exact ViewsB.of_drop 6 (by assumption) | exact ViewsB.of_drop 7 (by assumption) | exact ViewsB.of_drop 8 (by assumption) | exact ViewsB.of_drop 9 (by assumption) | exact ViewsB.of_drop 10 (by assumption) | exact ViewsB.of_drop 11 (by assumption) | exact ViewsB.of_drop 12 (by assumption) | exact ViewsB.sub (by first | exact ViewsB.own 0 rfl | exact ViewsB.own 1 rfl | exact ViewsB.own 2 rfl | exact ViewsB.own 3 rfl | exact ViewsB.own 4 rfl | exact ViewsB.own 5 rfl | assumption | exact ViewsB.nil _ | exact ViewsB.arr 0 rfl (by first | assumption | rfl | (simp; done)) (Nat.le_refl _) (by simp [maxLen]) | exact ViewsB.arr 1 rfl (by first | assumption | rfl | (simp; done)) (Nat.le_refl _) (by simp [maxLen]) | exact ViewsB.arr 2 rfl (by first | assumption | rfl | (simp; done)) (Nat.le_refl _) (by simp [maxLen]) | exact ViewsB.arr 3 rfl (by first | assumption | rfl | (simp; done)) (Nat.le_refl _) (by simp [maxLen]) | exact ViewsB.arr 4 rfl (by first | assumption | rfl | (simp; done)) (Nat.le_refl _) (by simp [maxLen]) | exact ViewsB.of_drop 1 (by assumption) | exact ViewsB.of_drop 2 (by assumption) | exact ViewsB.of_drop 3 (by assumption) | exact ViewsB.of_drop 4 (by assumption) | exact ViewsB.of_drop 5 (by assumption) | exact ViewsB.of_drop 6 (by assumption) | exact ViewsB.of_drop 7 (by assumption) | exact ViewsB.of_drop 8 (by assumption) | exact ViewsB.of_drop 9 (by assumption) | exact ViewsB.of_drop 10 (by assumption) | exact ViewsB.of_drop 11 (by assumption) | exact ViewsB.of_drop 12 (by assumption)) (by omega) (by first | omega | (simp; done) | (simp; omega))) h.2) (by first | omega | (simp only [List.length_cons, List.length_nil]; omega) | (simp; done) | (simp; omega)) rfl ?_)
          | (refine op_appendbs h rfl rfl K.u_S_uint8 K.sz_uint8 K.z_uint8 rfl rfl 5 rfl (Src.bytes K.u_S_uint8 (by first | exact ViewsB.own 0 rfl | exact ViewsB.own 1 rfl | exact ViewsB.own 2 rfl | exact ViewsB.own 3 rfl | exact ViewsB.own 4 rfl | exact ViewsB.own 5 rfl | assumption | exact ViewsB.nil _ | exact ViewsB.arr 0 rfl (by first | assumption | rfl | (simp; done)) (Nat.le_refl _) (by simp [maxLen]) | exact ViewsB.arr 1 rfl (by first | assumption | rfl | (simp; done)) (Nat.le_refl _) (by simp [maxLen]) | exact ViewsB.arr 2 rfl (by first | assumption | rfl | (simp; done)) (Nat.le_refl _) (by simp [maxLen]) | exact ViewsB.arr 3 rfl (by first | assumption | rfl | (simp; done)) (Nat.le_refl _) (by simp [maxLen]) | exact ViewsB.arr 4 rfl (by first | assumption | rfl | (simp; done)) (Nat.le_refl _) (by simp [maxLen]) | exact ViewsB.of_drop 1 (by assumption) | exact ViewsB.of_drop 2 (by assumption) | exact ViewsB.of_drop 3 (by assumption) | exact ViewsB.of_drop 4 (by assumption) | exact ViewsB.of_drop 5 (by assumption) | exact ViewsB.of_drop 6 (by assumption) | exact ViewsB.of_drop 7 (by assumption) | exact ViewsB.of_drop 8 (by assumption) | exact ViewsB.of_drop 9 (by assumption) | exact ViewsB.of_drop 10 (by assumption) | exact ViewsB.of_drop 11 (by assumption) | exact ViewsB.of_drop 12 (by assumption) | exact ViewsB.sub (by first | exact ViewsB.own 0 rfl | exact ViewsB.own 1 rfl | exact ViewsB.own 2 rfl | exact ViewsB.own 3 rfl | exact ViewsB.own 4 rfl | exact ViewsB.own 5 rfl | assumption | exact ViewsB.nil _ | exact ViewsB.arr 0 rfl (by first | assumption | rfl | (simp; done)) (Nat.le_refl _) (by simp [maxLen]) | exact ViewsB.arr 1 rfl (by first | assumption | rfl | (simp; done)) (Nat.le_refl _) (by simp [maxLen]) | exact ViewsB.arr 2 rfl (by first | assumption | rfl | (simp; done)) (Nat.le_refl _) (by simp [maxLen]) | exact ViewsB.arr 3 rfl (by first | assumption | rfl | (simp; done)) (Nat.le_refl _) (by simp [maxLen]) | exact ViewsB.arr 4 rfl (by first | assumption | rfl | (simp; done)) (Nat.le_refl _) (by simp [maxLen]) | exact ViewsB.of_drop 1 (by assumption) | exact ViewsB.of_drop 2 (by assumption) | exact ViewsB.of_drop 3 (by assumption) | exact ViewsB.of_drop 4 (by assumption) | exact ViewsB.of_drop 5 (by assumption) | exact ViewsB.of_drop 6 (by assumption) | exact ViewsB.of_drop 7 (by assumption) | exact ViewsB.of_drop 8 (by assumption) | exact ViewsB.of_drop 9 (by assumption) | exact ViewsB.of_drop 10 (by assumption) | exact ViewsB.of_drop 11 (by assumption) | exact ViewsB.of_drop 12 (by assumption)) (by omega) (by first | omega | (simp; done) | (simp; omega))) h.2) (by first | omega | (simp only [List.length_cons, List.length_nil]; omega) | (simp; done) | (simp; omega)) rfl ?_)
     clear hD h a w; intro v91 a w h
     (try simp only [List.set_cons_zero, List.set_cons_succ] at h)
     refine d_pay (Paid.nil) (fun hD => ?_)
     refine d_take0 (listed' := #[true, true, true, true, true, true, true, true, true, true, true, true, true, false]) h hD 12 (by as_aux_lemma => kernel_rfl) rfl (by as_aux_lemma => kernel_rfl) (by as_aux_lemma => kernel_rfl) (by as_aux_lemma => kernel_rfl) (fun _ _ _ _ hh => hh) (fun w h => by first | exact r_assign h rfl) rfl ?_
     clear hD h a w; intro a w h hD
     refine d_take0 (listed' := #[true, true, true, true, true, true, true, true, true, true, true, true, true, true]) h hD 13 (by as_aux_lemma => kernel_rfl) rfl (by as_aux_lemma => kernel_rfl) (by as_aux_lemma => kernel_rfl) (by as_aux_lemma => kernel_rfl) (fun _ _ _ _ hh => hh) (fun w h => by first | exact r_assign h rfl) rfl ?_
     clear hD h a w; intro a w h hD
     refine d_done (by kernel_rfl) ?_
     clear hD
     refine c_then ?_
     refine c_ret ?_
     exact ret2 h rfl rfl rfl ⟨v91, by rw [e]; rfl, by rw [e]; exact ((h.2.tail.tail.front 1 rfl).tail), trivial⟩
end Go.Proofs.K
