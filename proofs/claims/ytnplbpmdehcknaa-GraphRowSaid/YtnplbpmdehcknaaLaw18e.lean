/- The statements on graphs, walked: GraphRow. -/
import Derived.Test.YtnplbpmdehcknaaLaw18
import Derived.Test.YtnplbpmdehcknaaBookb
import Derived.Test.YtnplbpmdehcknaaRow
set_option linter.unusedVariables false
set_option linter.unusedSimpArgs false
set_option maxRecDepth 10000
set_option maxHeartbeats 2000000
namespace Go.Proofs.K
open Go.Sl
attribute [local irreducible] Go.Sl.Own Go.Sl.Blk Go.Sl.Sep Go.Sl.Ex Go.Sl.Fact
theorem law18_GraphRow (s w : World) (n x y : UInt16) (F : List HItem) (hs : Sat s w F) :
    Calls P n_law18_GraphRow #[w16 n, w16 x, w16 y] w (Ret s (fun _ : Unit => .bool true) (fun _ => F) (fun _ => True)) := by
  refine enter K.fn_law18_GraphRow rfl K.nt_law18_GraphRow rfl hs ?_
  clear hs w; intro a w h
  refine c_seq (c_region ?_)
  refine wv h (r_assign h rfl) rfl ?_
  clear h a w; intro a w h
  refine wnil (c_then ?_)
  refine c_seq ?_
  refine c_seq (c_region ?_)
  refine wl rfl (op_call h rfl K.go_law18_awake (law18_awake s _ _ h.2) rfl ?_)
  clear h a w; intro z17 a w hz17 h
  (try simp only [List.set_cons_zero, List.set_cons_succ] at h)
  refine wv h (r_not h rfl) rfl ?_
  clear h a w; intro a w h
  refine wnil (c_then ?_)
  refine c_condP (p := False) h rfl (by simp) (fun q => q.elim) (fun _ => ?_)
  refine c_skip ?_
  refine c_then ?_
  refine c_seq (c_region ?_)
  refine wv h (r_move h rfl) rfl ?_
  clear h a w; intro a w h
  refine wv h (r_bin h rfl rfl (B.rem_u16 (y := 200) (by decide))) rfl ?_
  clear h a w; intro a w h
  refine wv h (r_conv h rfl K.u_uint16 K.u_int (C.i64_u16) ) rfl ?_
  clear h a w; intro a w h
  have hn200 : (n % 200).toNat = n.toNat % 200 := by rw [UInt16.toNat_mod]; rfl
  refine wv h (r_bin h rfl rfl (B.add_i64 (by omega) (by omega))) rfl ?_
  clear h a w; intro a w h
  obtain ⟨k, hk⟩ : ∃ k : Nat, k = 1 + (n % 200).toNat := ⟨_, rfl⟩
  have hk0 : 0 < k := by omega
  have hk2 : k ≤ 200 := by omega
  rw [show (1 + ((n % 200).toNat : Int)) = ((k : Nat) : Int) by rw [hk]; push_cast; rfl] at h
  refine wv h (r_assign h rfl) rfl ?_
  clear h a w; intro a w h
  refine wnil (c_then ?_)
  refine c_seq (c_region ?_)
  refine wv h (r_build h K.u_interleafref18_Book K.z_interleafref18_Book K.pl_interleafref18_Book rfl rfl) rfl ?_
  clear h a w; intro a w h
  refine wl rfl (op_box h rfl rfl ?_)
  clear h a w; intro b24 a w h
  try simp only [Value.cells] at h
  refine wv h (r_assign h rfl) rfl ?_
  clear h a w; intro a w h
  refine wnil (c_then ?_)
  refine c_seq ?_
  refine c_seq (c_region ?_)
  refine wv h (r_assign h rfl) rfl ?_
  clear h a w; intro a w h
  refine wnil (c_then ?_)
  refine c_block ?_
  replace h : St _ _ _ _ _ (OwnM 67 cellsN (.slice none 0 0) [] :: Blk b24 (.cells ⟨[.slice none 0 0, .slice none 0 0, .slice none 0 0, .slice none 0 0, .bool false]⟩ t_interleafref18_Book) :: ParsI [] :: F) := ⟨h.1, by
    have q := (St.addNilM (size := 67) (cells := cellsN) ⟨h.1, h.2.parsNil⟩).2
    replace q := q.front 2 rfl
    replace q := q.front 1 rfl
    exact q⟩
  refine c_loop (X := Nat × Value × List NodeV) (fun z => [(1, w16 x), (2, w16 y), (7, .int .i64 (k : Int)), (8, bp b24), (9, .int .i64 (z.1 : Int))]) (fun z => OwnM 67 cellsN z.2.1 z.2.2 :: Blk b24 (.cells ⟨[z.2.1, .slice none 0 0, .slice none 0 0, .slice none 0 0, .bool false]⟩ t_interleafref18_Book) :: ParsI z.2.2 :: F)
    (fun z => z.1 ≤ k ∧ nsOf z.2.2 = rowS z.1) (fun z => k - z.1) (0, .slice none 0 0, []) (h.keep [1, 2, 7, 8, 9]) ⟨Nat.zero_le _, rfl⟩ ?_
  clear h a w; intro z a w hz h
  obtain ⟨i, nv, xs⟩ := z
  obtain ⟨h1, h2⟩ := hz
  simp only at h1 h2 h
  have hxl : xs.length = i := by have q := rowS_len i; rw [← h2] at q; simpa [nsOf] using q
  as_aux_lemma =>
   refine c_seq ?_
   refine c_seq (c_region ?_)
   refine wv h (r_move h rfl) rfl ?_
   clear h a w; intro a w h
   refine wv h (r_move h rfl) rfl ?_
   clear h a w; intro a w h
   refine wv h (r_bin h rfl rfl (B.lss_int)) rfl ?_
   clear h a w; intro a w h
   refine wnil (c_then ?_)
   refine c_condP (p := i < k) h rfl (by simp) (fun ht1 => ?_) (fun ht1 => ?_)
   ·
    refine c_skip ?_
    refine c_then ?_
    refine c_seq ?_
    refine c_block ?_
    have lc0 := comC_len (BA.zero 32) (.slice none 0 0) (sv [])
    have oc0 : ∀ u ∈ comC (BA.zero 32) (.slice none 0 0) (sv []), u.oneCell' = true := comC_one rfl rfl
    refine c_seq (c_region ?_)
    refine wv h (r_build (cells := ⟨comC (BA.zero 32) (.slice none 0 0) (sv [])⟩) h K.u_api_Commit K.z_api_Commit K.pl_api_Commit rfl rfl) rfl ?_
    clear h a w; intro a w h
    refine wl rfl (op_alloc h K.z_api_Commit rfl ?_)
    clear h a w; intro b10 a w h
    first
        | (refine wl rfl (op_stA h rfl rfl K.sz_api_Commit (by first | exact Row.len _ | rfl | assumption | (simp; done) | (simp; omega) | omega) (by first | exact Row.one _ | exact bs_one _ | assumption | (simp; done) | (simp; (repeat' apply And.intro) <;> first | rfl | assumption)) 0 rfl (by first | rfl | assumption | (simp; done) | (simp; omega) | omega) ?_))
        | (refine wl rfl (op_stA h rfl rfl K.sz_api_Commit (by first | exact Row.len _ | rfl | assumption | (simp; done) | (simp; omega) | omega) (by first | exact Row.one _ | exact bs_one _ | assumption | (simp; done) | (simp; (repeat' apply And.intro) <;> first | rfl | assumption)) 1 rfl (by first | rfl | assumption | (simp; done) | (simp; omega) | omega) ?_))
        | (refine wl rfl (op_stA h rfl rfl K.sz_api_Commit (by first | exact Row.len _ | rfl | assumption | (simp; done) | (simp; omega) | omega) (by first | exact Row.one _ | exact bs_one _ | assumption | (simp; done) | (simp; (repeat' apply And.intro) <;> first | rfl | assumption)) 2 rfl (by first | rfl | assumption | (simp; done) | (simp; omega) | omega) ?_))
        | (refine wl rfl (op_stA h rfl rfl K.sz_api_Commit (by first | exact Row.len _ | rfl | assumption | (simp; done) | (simp; omega) | omega) (by first | exact Row.one _ | exact bs_one _ | assumption | (simp; done) | (simp; (repeat' apply And.intro) <;> first | rfl | assumption)) 3 rfl (by first | rfl | assumption | (simp; done) | (simp; omega) | omega) ?_))
        | (refine wl rfl (op_stA h rfl rfl K.sz_api_Commit (by first | exact Row.len _ | rfl | assumption | (simp; done) | (simp; omega) | omega) (by first | exact Row.one _ | exact bs_one _ | assumption | (simp; done) | (simp; (repeat' apply And.intro) <;> first | rfl | assumption)) 4 rfl (by first | rfl | assumption | (simp; done) | (simp; omega) | omega) ?_))
        | (refine wl rfl (op_stA h rfl rfl K.sz_api_Commit (by first | exact Row.len _ | rfl | assumption | (simp; done) | (simp; omega) | omega) (by first | exact Row.one _ | exact bs_one _ | assumption | (simp; done) | (simp; (repeat' apply And.intro) <;> first | rfl | assumption)) 5 rfl (by first | rfl | assumption | (simp; done) | (simp; omega) | omega) ?_))
    clear h a w; intro a w h
    (try simp only [List.set_cons_zero, List.set_cons_succ] at h)
    refine wnil (c_then ?_)
    refine c_meet h (X := Value × List Key) (fun z => [(1, w16 x), (2, w16 y), (7, .int .i64 (k : Int)), (8, bp b24), (9, .int .i64 (i : Int)), (10, bp b10)])
      (fun z => OwnM 32 cellsA z.1 z.2 :: Blk b10 (.cells ⟨comC (BA.zero 32) z.1 (sv [])⟩ t_api_Commit) :: OwnM 67 cellsN nv xs :: Blk b24 (.cells ⟨[nv, .slice none 0 0, .slice none 0 0, .slice none 0 0, .bool false]⟩ t_interleafref18_Book) :: ParsI xs :: F)
      (fun z => z.2 = parR i) ?_ ?_
    ·
     refine c_seq (c_region ?_)
     refine wv h (r_move h rfl) rfl ?_
     clear h a w; intro a w h
     refine wv h (r_bin h rfl rfl (B.gtr_int)) rfl ?_
     clear h a w; intro a w h
     refine wnil (c_then ?_)
     refine c_condP (p := 0 < i) h rfl (by simp) (fun ht2 => ?_) (fun ht2 => ?_)
     ·
      as_aux_lemma =>
       refine c_region ?_
       refine wv h (r_move h rfl) rfl ?_
       clear h a w; intro a w h
       refine wv h (r_conv h rfl K.u_int K.u_uint8 (C.u8_i64) ) rfl ?_
       clear h a w; intro a w h
       refine wv h (r_move h rfl) rfl ?_
       clear h a w; intro a w h
       refine wv h (r_bin h rfl rfl (B.quo_i64 (by omega) (by omega) (by omega))) rfl ?_
       clear h a w; intro a w h
       refine wv h (r_conv h rfl K.u_int K.u_uint8 (C.u8_i64) ) rfl ?_
       clear h a w; intro a w h
       refine wv h (r_buildA (cells := ⟨cellsA (rk i)⟩) h K.u_api_Key K.z_api_Key K.sz_uint8 rfl (fill_rk i)) rfl ?_
       clear h a w; intro a w h
       refine wl rfl (op_build1 (us := cellsA (rk i)) h K.u_S_api_Key K.sz_api_Key K.z_api_Key rfl rfl rfl (Row.len (rk i)) rfl ?_)
       clear h a w; intro b39 a w h
       replace h : St _ _ _ _ _ (OwnM 32 cellsA (.slice (some ⟨b39, 0, none⟩) 1 1) [rk i] :: _) := ⟨h.1, h.2.toOwn 32 1 (NF.zero 32) (by decide) (by simp) (by show (cellsA (rk i)).length = _; rw [Row.len (rk i)])⟩
       refine wv h (r_fieldAddr h 32 rfl K.u_api_Commit rfl K.sz_S_api_Key rfl rfl) rfl ?_
       clear h a w; intro a w h
       first
              | (refine wl rfl (op_storeN h rfl rfl K.sz_S_api_Key (by first | rfl | assumption | exact Views.oneCell (Views.own 0 rfl) h.2 | exact Views.oneCell (Views.own 1 rfl) h.2 | exact Views.oneCell (Views.own 2 rfl) h.2 | exact Views.oneCell (Views.own 3 rfl) h.2 | exact Views.oneCell (Views.own 4 rfl) h.2 | exact Views.oneCell (Views.own 5 rfl) h.2 | exact Views.oneCell (by assumption) h.2) 0 rfl rfl ?_))
              | (refine wl rfl (op_storeN h rfl rfl K.sz_S_api_Key (by first | rfl | assumption | exact Views.oneCell (Views.own 0 rfl) h.2 | exact Views.oneCell (Views.own 1 rfl) h.2 | exact Views.oneCell (Views.own 2 rfl) h.2 | exact Views.oneCell (Views.own 3 rfl) h.2 | exact Views.oneCell (Views.own 4 rfl) h.2 | exact Views.oneCell (Views.own 5 rfl) h.2 | exact Views.oneCell (by assumption) h.2) 1 rfl rfl ?_))
              | (refine wl rfl (op_storeN h rfl rfl K.sz_S_api_Key (by first | rfl | assumption | exact Views.oneCell (Views.own 0 rfl) h.2 | exact Views.oneCell (Views.own 1 rfl) h.2 | exact Views.oneCell (Views.own 2 rfl) h.2 | exact Views.oneCell (Views.own 3 rfl) h.2 | exact Views.oneCell (Views.own 4 rfl) h.2 | exact Views.oneCell (Views.own 5 rfl) h.2 | exact Views.oneCell (by assumption) h.2) 2 rfl rfl ?_))
              | (refine wl rfl (op_storeN h rfl rfl K.sz_S_api_Key (by first | rfl | assumption | exact Views.oneCell (Views.own 0 rfl) h.2 | exact Views.oneCell (Views.own 1 rfl) h.2 | exact Views.oneCell (Views.own 2 rfl) h.2 | exact Views.oneCell (Views.own 3 rfl) h.2 | exact Views.oneCell (Views.own 4 rfl) h.2 | exact Views.oneCell (Views.own 5 rfl) h.2 | exact Views.oneCell (by assumption) h.2) 3 rfl rfl ?_))
              | (refine wl rfl (op_storeN h rfl rfl K.sz_S_api_Key (by first | rfl | assumption | exact Views.oneCell (Views.own 0 rfl) h.2 | exact Views.oneCell (Views.own 1 rfl) h.2 | exact Views.oneCell (Views.own 2 rfl) h.2 | exact Views.oneCell (Views.own 3 rfl) h.2 | exact Views.oneCell (Views.own 4 rfl) h.2 | exact Views.oneCell (Views.own 5 rfl) h.2 | exact Views.oneCell (by assumption) h.2) 4 rfl rfl ?_))
              | (refine wl rfl (op_storeN h rfl rfl K.sz_S_api_Key (by first | rfl | assumption | exact Views.oneCell (Views.own 0 rfl) h.2 | exact Views.oneCell (Views.own 1 rfl) h.2 | exact Views.oneCell (Views.own 2 rfl) h.2 | exact Views.oneCell (Views.own 3 rfl) h.2 | exact Views.oneCell (Views.own 4 rfl) h.2 | exact Views.oneCell (Views.own 5 rfl) h.2 | exact Views.oneCell (by assumption) h.2) 5 rfl rfl ?_))
              | (refine wl rfl (op_storeN h rfl rfl K.sz_S_api_Key (by first | rfl | assumption | exact Views.oneCell (Views.own 0 rfl) h.2 | exact Views.oneCell (Views.own 1 rfl) h.2 | exact Views.oneCell (Views.own 2 rfl) h.2 | exact Views.oneCell (Views.own 3 rfl) h.2 | exact Views.oneCell (Views.own 4 rfl) h.2 | exact Views.oneCell (Views.own 5 rfl) h.2 | exact Views.oneCell (by assumption) h.2) 6 rfl rfl ?_))
              | (refine wl rfl (op_storeC (o := 32) h rfl rfl K.sz_S_api_Key (by first | rfl | assumption | exact Views.oneCell (Views.own 0 rfl) h.2 | exact Views.oneCell (Views.own 1 rfl) h.2 | exact Views.oneCell (Views.own 2 rfl) h.2 | exact Views.oneCell (Views.own 3 rfl) h.2 | exact Views.oneCell (Views.own 4 rfl) h.2 | exact Views.oneCell (Views.own 5 rfl) h.2 | exact Views.oneCell (by assumption) h.2) 0 rfl ?_))
              | (refine wl rfl (op_storeC (o := 32) h rfl rfl K.sz_S_api_Key (by first | rfl | assumption | exact Views.oneCell (Views.own 0 rfl) h.2 | exact Views.oneCell (Views.own 1 rfl) h.2 | exact Views.oneCell (Views.own 2 rfl) h.2 | exact Views.oneCell (Views.own 3 rfl) h.2 | exact Views.oneCell (Views.own 4 rfl) h.2 | exact Views.oneCell (Views.own 5 rfl) h.2 | exact Views.oneCell (by assumption) h.2) 1 rfl ?_))
              | (refine wl rfl (op_storeC (o := 32) h rfl rfl K.sz_S_api_Key (by first | rfl | assumption | exact Views.oneCell (Views.own 0 rfl) h.2 | exact Views.oneCell (Views.own 1 rfl) h.2 | exact Views.oneCell (Views.own 2 rfl) h.2 | exact Views.oneCell (Views.own 3 rfl) h.2 | exact Views.oneCell (Views.own 4 rfl) h.2 | exact Views.oneCell (Views.own 5 rfl) h.2 | exact Views.oneCell (by assumption) h.2) 2 rfl ?_))
              | (refine wl rfl (op_storeC (o := 32) h rfl rfl K.sz_S_api_Key (by first | rfl | assumption | exact Views.oneCell (Views.own 0 rfl) h.2 | exact Views.oneCell (Views.own 1 rfl) h.2 | exact Views.oneCell (Views.own 2 rfl) h.2 | exact Views.oneCell (Views.own 3 rfl) h.2 | exact Views.oneCell (Views.own 4 rfl) h.2 | exact Views.oneCell (Views.own 5 rfl) h.2 | exact Views.oneCell (by assumption) h.2) 3 rfl ?_))
              | (refine wl rfl (op_storeC (o := 32) h rfl rfl K.sz_S_api_Key (by first | rfl | assumption | exact Views.oneCell (Views.own 0 rfl) h.2 | exact Views.oneCell (Views.own 1 rfl) h.2 | exact Views.oneCell (Views.own 2 rfl) h.2 | exact Views.oneCell (Views.own 3 rfl) h.2 | exact Views.oneCell (Views.own 4 rfl) h.2 | exact Views.oneCell (Views.own 5 rfl) h.2 | exact Views.oneCell (by assumption) h.2) 4 rfl ?_))
              | (refine wl rfl (op_storeC (o := 32) h rfl rfl K.sz_S_api_Key (by first | rfl | assumption | exact Views.oneCell (Views.own 0 rfl) h.2 | exact Views.oneCell (Views.own 1 rfl) h.2 | exact Views.oneCell (Views.own 2 rfl) h.2 | exact Views.oneCell (Views.own 3 rfl) h.2 | exact Views.oneCell (Views.own 4 rfl) h.2 | exact Views.oneCell (Views.own 5 rfl) h.2 | exact Views.oneCell (by assumption) h.2) 5 rfl ?_))
              | (refine wl rfl (op_storeC (o := 32) h rfl rfl K.sz_S_api_Key (by first | rfl | assumption | exact Views.oneCell (Views.own 0 rfl) h.2 | exact Views.oneCell (Views.own 1 rfl) h.2 | exact Views.oneCell (Views.own 2 rfl) h.2 | exact Views.oneCell (Views.own 3 rfl) h.2 | exact Views.oneCell (Views.own 4 rfl) h.2 | exact Views.oneCell (Views.own 5 rfl) h.2 | exact Views.oneCell (by assumption) h.2) 6 rfl ?_))
       clear h a w; intro a w h
       (try simp only [List.set_cons_zero, List.set_cons_succ] at h)
       refine wnil ?_
       exact ⟨(.slice (some ⟨b39, 0, none⟩) 1 1, [rk i]), h.keep [1, 2, 7, 8, 9, 10], by rw [parR, if_pos ht2]⟩
     ·
      refine c_skip ?_
      exact ⟨(.slice none 0 0, []), (h.keep [1, 2, 7, 8, 9, 10]).addNilM, by rw [parR, if_neg ht2]⟩
    ·
     clear h a w; intro z a w hz h
     obtain ⟨pv, pars⟩ := z
     simp only at hz h
     obtain ⟨A, cap, rfl, _⟩ := (Views.own 0 rfl).shape h.2
     have hpl : pars.length ≤ 2 := by rw [hz]; exact parR_len _
     obtain ⟨xn, hxn⟩ : ∃ xn : NodeV, xn = ⟨rk (i + 1), BA.zero 32, A, pars.length, cap, [], pars⟩ := ⟨_, rfl⟩
     have lc2 := comC_len (BA.zero 32) (.slice A pars.length cap) (sv [])
     have hfn := fill_node (rk (i + 1)) (comC (BA.zero 32) (.slice A pars.length cap) (sv [])) lc2
     have hcn : cellsN xn = bs (rk (i + 1)).val ++ (comC (BA.zero 32) (.slice A pars.length cap) (sv []) ++ [.slice none 0 0]) := by rw [hxn]; rfl
     replace h : St _ _ _ _ _ (OwnM 67 cellsN nv xs :: Blk b24 _ :: Blk b10 (.cells ⟨comC (BA.zero 32) (.slice A pars.length cap) (sv [])⟩ t_api_Commit) :: OwnM 32 cellsA (.slice A pars.length cap) pars :: ParsI xs :: F) := ⟨h.1, (by have q := h.2; replace q := q.front 1 rfl; replace q := q.front 3 rfl; replace q := q.front 3 rfl; exact q)⟩
     refine c_drawn 20 K.mixed rfl h ?_
     clear h a w; intro a w h
     have hD : Paid s w [] := Paid.nil
     refine d_take0 (listed' := #[true, false, false, false, false, false, false, false, false, false, false, false, false, false, false, false, false, false, false, false]) h hD 0 (by as_aux_lemma => kernel_rfl) rfl (by as_aux_lemma => kernel_rfl) (by as_aux_lemma => kernel_rfl) (by as_aux_lemma => kernel_rfl) (fun _ _ _ _ hh => hh) (fun w h => by first | exact r_move h rfl) rfl ?_
     clear hD h a w; intro a w h hD
     refine d_take0 (listed' := #[true, true, false, false, false, false, false, false, false, false, false, false, false, false, false, false, false, false, false, false]) h hD 1 (by as_aux_lemma => kernel_rfl) rfl (by as_aux_lemma => kernel_rfl) (by as_aux_lemma => kernel_rfl) (by as_aux_lemma => kernel_rfl) (fun _ _ _ _ hh => hh) (fun w h => by first | exact r_move h rfl) rfl ?_
     clear hD h a w; intro a w h hD
     refine d_take0 (listed' := #[true, true, true, false, false, false, false, false, false, false, false, false, false, false, false, false, false, false, false, false]) h hD 2 (by as_aux_lemma => kernel_rfl) rfl (by as_aux_lemma => kernel_rfl) (by as_aux_lemma => kernel_rfl) (by as_aux_lemma => kernel_rfl) (fun _ _ _ _ hh => hh) (fun w h => by first | exact r_nilCheck h rfl) rfl ?_
     clear hD h a w; intro a w h hD
     refine d_take0 (listed' := #[true, true, true, true, false, false, false, false, false, false, false, false, false, false, false, false, false, false, false, false]) h hD 3 (by as_aux_lemma => kernel_rfl) rfl (by as_aux_lemma => kernel_rfl) (by as_aux_lemma => kernel_rfl) (by as_aux_lemma => kernel_rfl) (fun _ _ _ _ hh => hh) (fun w h => by first | exact r_fieldAddr0 h rfl K.u_interleafref18_Book rfl K.sz_S_interleafref18_Node rfl rfl) rfl ?_
     clear hD h a w; intro a w h hD
     refine d_take (listed' := #[true, true, true, true, true, false, false, false, false, false, false, false, false, false, false, false, false, false, false, false]) h hD 4 _ (by as_aux_lemma => kernel_rfl) rfl (by as_aux_lemma => kernel_rfl) (by as_aux_lemma => kernel_rfl) (by as_aux_lemma => kernel_rfl) (fun _ _ _ _ hh => hh) h.2 (fun w hw => by first | exact r_ldN ⟨h.1, hw⟩ rfl K.u_S_interleafref18_Node rfl 0 rfl rfl | exact r_ldN ⟨h.1, hw⟩ rfl K.u_S_interleafref18_Node rfl 1 rfl rfl | exact r_ldN ⟨h.1, hw⟩ rfl K.u_S_interleafref18_Node rfl 2 rfl rfl | exact r_ldN ⟨h.1, hw⟩ rfl K.u_S_interleafref18_Node rfl 3 rfl rfl | exact r_ldN ⟨h.1, hw⟩ rfl K.u_S_interleafref18_Node rfl 4 rfl rfl | exact r_ldN ⟨h.1, hw⟩ rfl K.u_S_interleafref18_Node rfl 5 rfl rfl | exact r_ldN ⟨h.1, hw⟩ rfl K.u_S_interleafref18_Node rfl 6 rfl rfl | exact r_ldC (o := 0) ⟨h.1, hw⟩ rfl K.u_S_interleafref18_Node rfl 0 rfl | exact r_ldC (o := 0) ⟨h.1, hw⟩ rfl K.u_S_interleafref18_Node rfl 1 rfl | exact r_ldC (o := 0) ⟨h.1, hw⟩ rfl K.u_S_interleafref18_Node rfl 2 rfl | exact r_ldC (o := 0) ⟨h.1, hw⟩ rfl K.u_S_interleafref18_Node rfl 3 rfl | exact r_ldC (o := 0) ⟨h.1, hw⟩ rfl K.u_S_interleafref18_Node rfl 4 rfl | exact r_ldC (o := 0) ⟨h.1, hw⟩ rfl K.u_S_interleafref18_Node rfl 5 rfl | exact r_ldC (o := 0) ⟨h.1, hw⟩ rfl K.u_S_interleafref18_Node rfl 6 rfl | exact r_load ⟨h.1, hw⟩ rfl K.u_S_interleafref18_Node rfl 0 rfl rfl | exact r_load ⟨h.1, hw⟩ rfl K.u_S_interleafref18_Node rfl 1 rfl rfl | exact r_load ⟨h.1, hw⟩ rfl K.u_S_interleafref18_Node rfl 2 rfl rfl | exact r_load ⟨h.1, hw⟩ rfl K.u_S_interleafref18_Node rfl 3 rfl rfl | exact r_load ⟨h.1, hw⟩ rfl K.u_S_interleafref18_Node rfl 4 rfl rfl | exact r_load ⟨h.1, hw⟩ rfl K.u_S_interleafref18_Node rfl 5 rfl rfl | exact r_load1 ⟨h.1, hw⟩ rfl K.u_S_interleafref18_Node rfl (by assumption)) rfl ?_
     clear hD h a w; intro a w h hD
     refine d_take0 (listed' := #[true, true, true, true, true, true, false, false, false, false, false, false, false, false, false, false, false, false, false, false]) h hD 5 (by as_aux_lemma => kernel_rfl) rfl (by as_aux_lemma => kernel_rfl) (by as_aux_lemma => kernel_rfl) (by as_aux_lemma => kernel_rfl) (fun _ _ _ _ hh => hh) (fun w h => by first | exact r_move h rfl) rfl ?_
     clear hD h a w; intro a w h hD
     refine d_take0 (listed' := #[true, true, true, true, true, true, true, false, false, false, false, false, false, false, false, false, false, false, false, false]) h hD 6 (by as_aux_lemma => kernel_rfl) rfl (by as_aux_lemma => kernel_rfl) (by as_aux_lemma => kernel_rfl) (by as_aux_lemma => kernel_rfl) (fun _ _ _ _ hh => hh) (fun w h => by first | exact r_bin h rfl rfl (B.add_i64 (by omega) (by omega))) rfl ?_
     clear hD h a w; intro a w h hD
     refine d_take0 (listed' := #[true, true, true, true, true, true, true, true, false, false, false, false, false, false, false, false, false, false, false, false]) h hD 7 (by as_aux_lemma => kernel_rfl) rfl (by as_aux_lemma => kernel_rfl) (by as_aux_lemma => kernel_rfl) (by as_aux_lemma => kernel_rfl) (fun _ _ _ _ hh => hh) (fun w h => by first | exact r_conv h rfl K.u_int K.u_uint8 (C.u8_i64) ) rfl ?_
     clear hD h a w; intro a w h hD
     refine d_take0 (listed' := #[true, true, true, true, true, true, true, true, true, false, false, false, false, false, false, false, false, false, false, false]) h hD 8 (by as_aux_lemma => kernel_rfl) rfl (by as_aux_lemma => kernel_rfl) (by as_aux_lemma => kernel_rfl) (by as_aux_lemma => kernel_rfl) (fun _ _ _ _ hh => hh) (fun w h => by first | exact r_move h rfl) rfl ?_
     clear hD h a w; intro a w h hD
     refine d_take0 (listed' := #[true, true, true, true, true, true, true, true, true, true, false, false, false, false, false, false, false, false, false, false]) h hD 9 (by as_aux_lemma => kernel_rfl) rfl (by as_aux_lemma => kernel_rfl) (by as_aux_lemma => kernel_rfl) (by as_aux_lemma => kernel_rfl) (fun _ _ _ _ hh => hh) (fun w h => by first | exact r_bin h rfl rfl (B.add_i64 (by omega) (by omega))) rfl ?_
     clear hD h a w; intro a w h hD
     refine d_take0 (listed' := #[true, true, true, true, true, true, true, true, true, true, true, false, false, false, false, false, false, false, false, false]) h hD 10 (by as_aux_lemma => kernel_rfl) rfl (by as_aux_lemma => kernel_rfl) (by as_aux_lemma => kernel_rfl) (by as_aux_lemma => kernel_rfl) (fun _ _ _ _ hh => hh) (fun w h => by first | exact r_bin h rfl rfl (B.quo_i64 (by omega) (by omega) (by omega))) rfl ?_
     clear hD h a w; intro a w h hD
     refine d_take0 (listed' := #[true, true, true, true, true, true, true, true, true, true, true, true, false, false, false, false, false, false, false, false]) h hD 11 (by as_aux_lemma => kernel_rfl) rfl (by as_aux_lemma => kernel_rfl) (by as_aux_lemma => kernel_rfl) (by as_aux_lemma => kernel_rfl) (fun _ _ _ _ hh => hh) (fun w h => by first | exact r_conv h rfl K.u_int K.u_uint8 (C.u8_i64) ) rfl ?_
     clear hD h a w; intro a w h hD
     refine d_take0 (listed' := #[true, true, true, true, true, true, true, true, true, true, true, true, true, false, false, false, false, false, false, false]) h hD 12 (by as_aux_lemma => kernel_rfl) rfl (by as_aux_lemma => kernel_rfl) (by as_aux_lemma => kernel_rfl) (by as_aux_lemma => kernel_rfl) (fun _ _ _ _ hh => hh) (fun w h => by first | exact r_buildA (cells := ⟨cellsA (rk (i + 1))⟩) h K.u_api_Key K.z_api_Key K.sz_uint8 rfl (fill_rk1 i)) rfl ?_
     clear hD h a w; intro a w h hD
     refine d_take (listed' := #[true, true, true, true, true, true, true, true, true, true, true, true, true, true, false, false, false, false, false, false]) h hD 13 ((Blk b10 (.cells ⟨comC (BA.zero 32) (.slice A pars.length cap) (sv [])⟩ t_api_Commit) :: OwnM 32 cellsA (.slice A pars.length cap) pars :: ParsI xs :: F)) (by as_aux_lemma => kernel_rfl) rfl (by as_aux_lemma => kernel_rfl) (by as_aux_lemma => kernel_rfl) (by as_aux_lemma => kernel_rfl) (fun _ _ _ _ hh => hh) (by first | exact h.2 | exact h.2.drop 1 | exact h.2.drop 2 | exact h.2.drop 3 | exact h.2.drop 4 | exact h.2.drop 5 | exact h.2.drop 6 | exact h.2.drop 7) (fun w hw => by first | exact r_ldA ⟨h.1, hw⟩ rfl K.u_api_Commit rfl K.sz_api_Commit 0 rfl (by first | exact Row.len _ | rfl | assumption | (simp; done) | (simp; omega) | omega) | exact r_ldA ⟨h.1, hw⟩ rfl K.u_api_Commit rfl K.sz_api_Commit 1 rfl (by first | exact Row.len _ | rfl | assumption | (simp; done) | (simp; omega) | omega) | exact r_ldA ⟨h.1, hw⟩ rfl K.u_api_Commit rfl K.sz_api_Commit 2 rfl (by first | exact Row.len _ | rfl | assumption | (simp; done) | (simp; omega) | omega) | exact r_ldA ⟨h.1, hw⟩ rfl K.u_api_Commit rfl K.sz_api_Commit 3 rfl (by first | exact Row.len _ | rfl | assumption | (simp; done) | (simp; omega) | omega) | exact r_ldA ⟨h.1, hw⟩ rfl K.u_api_Commit rfl K.sz_api_Commit 4 rfl (by first | exact Row.len _ | rfl | assumption | (simp; done) | (simp; omega) | omega) | exact r_ldA ⟨h.1, hw⟩ rfl K.u_api_Commit rfl K.sz_api_Commit 5 rfl (by first | exact Row.len _ | rfl | assumption | (simp; done) | (simp; omega) | omega) | exact r_loadCA ⟨h.1, hw⟩ rfl K.u_api_Commit rfl K.sz_api_Commit (by assumption) (by first | rfl | assumption | (simp; done) | (simp; omega) | omega)) rfl ?_
     clear hD h a w; intro a w h hD
     refine d_take0 (listed' := #[true, true, true, true, true, true, true, true, true, true, true, true, true, true, true, false, false, false, false, false]) h hD 14 (by as_aux_lemma => kernel_rfl) rfl (by as_aux_lemma => kernel_rfl) (by as_aux_lemma => kernel_rfl) (by as_aux_lemma => kernel_rfl) (fun _ _ _ _ hh => hh) (fun w h => by first | exact r_build (cells := ⟨cellsN xn⟩) h K.u_interleafref18_Node K.z_interleafref18_Node K.pl_interleafref18_Node rfl (by rw [hcn]; exact hfn _ rfl rfl)) rfl ?_
     clear hD h a w; intro a w h hD
     refine d_only (listed' := #[true, true, true, true, true, true, true, true, true, true, true, true, true, true, true, true, false, false, false, false]) 15 [true, true] (by as_aux_lemma => kernel_rfl) rfl rfl (by as_aux_lemma => kernel_rfl) (by as_aux_lemma => kernel_rfl) ?_
     refine op_build1 h K.u_S_interleafref18_Node K.sz_interleafref18_Node K.z_interleafref18_Node rfl rfl rfl (by first | exact Row.len _ | rfl | assumption | (simp; done) | (simp; omega) | omega) rfl ?_
     clear hD h a w; intro b56 a w h
     refine d_pay (Paid.cons (by first | exact h.2 | exact h.2.drop 1 | exact h.2.drop 2 | exact h.2.drop 3 | exact h.2.drop 4 | exact h.2.drop 5 | exact h.2.drop 6 | exact h.2.drop 7) (Paid.cons (by first | exact h.2 | exact h.2.drop 1 | exact h.2.drop 2 | exact h.2.drop 3 | exact h.2.drop 4 | exact h.2.drop 5 | exact h.2.drop 6 | exact h.2.drop 7) (Paid.nil))) (fun hD => ?_)
     refine d_only (listed' := #[true, true, true, true, true, true, true, true, true, true, true, true, true, true, true, true, true, false, false, false]) 16 [true, false] (by as_aux_lemma => kernel_rfl) rfl rfl (by as_aux_lemma => kernel_rfl) (by as_aux_lemma => kernel_rfl) ?_
     refine op_appendR1 (cells := cellsN) (u := xn) h rfl rfl K.u_S_interleafref18_Node K.sz_interleafref18_Node K.z_interleafref18_Node rfl rfl 0 rfl (by omega) rfl ?_
     clear hD h a w; intro v57 a w h
     (try simp only [List.set_cons_zero, List.set_cons_succ] at h)
     refine d_pay (Paid.cons (by first | exact h.2 | exact h.2.drop 1 | exact h.2.drop 2 | exact h.2.drop 3 | exact h.2.drop 4 | exact h.2.drop 5 | exact h.2.drop 6 | exact h.2.drop 7) (Paid.nil)) (fun hD => ?_)
     refine d_take0 (listed' := #[true, true, true, true, true, true, true, true, true, true, true, true, true, true, true, true, true, true, false, false]) h hD 17 (by as_aux_lemma => kernel_rfl) rfl (by as_aux_lemma => kernel_rfl) (by as_aux_lemma => kernel_rfl) (by as_aux_lemma => kernel_rfl) (fun _ _ _ _ hh => hh) (fun w h => by first | exact r_nilCheck h rfl) rfl ?_
     clear hD h a w; intro a w h hD
     refine d_take0 (listed' := #[true, true, true, true, true, true, true, true, true, true, true, true, true, true, true, true, true, true, true, false]) h hD 18 (by as_aux_lemma => kernel_rfl) rfl (by as_aux_lemma => kernel_rfl) (by as_aux_lemma => kernel_rfl) (by as_aux_lemma => kernel_rfl) (fun _ _ _ _ hh => hh) (fun w h => by first | exact r_fieldAddr0 h rfl K.u_interleafref18_Book rfl K.sz_S_interleafref18_Node rfl rfl) rfl ?_
     clear hD h a w; intro a w h hD
     refine d_only (listed' := #[true, true, true, true, true, true, true, true, true, true, true, true, true, true, true, true, true, true, true, true]) 19 [false] (by as_aux_lemma => kernel_rfl) rfl rfl (by as_aux_lemma => kernel_rfl) (by as_aux_lemma => kernel_rfl) ?_
     first
          | (refine op_storeN h rfl rfl K.sz_S_interleafref18_Node (by first | rfl | assumption | exact Views.oneCell (Views.own 0 rfl) h.2 | exact Views.oneCell (Views.own 1 rfl) h.2 | exact Views.oneCell (Views.own 2 rfl) h.2 | exact Views.oneCell (Views.own 3 rfl) h.2 | exact Views.oneCell (Views.own 4 rfl) h.2 | exact Views.oneCell (Views.own 5 rfl) h.2 | exact Views.oneCell (by assumption) h.2) 0 rfl rfl ?_)
          | (refine op_storeN h rfl rfl K.sz_S_interleafref18_Node (by first | rfl | assumption | exact Views.oneCell (Views.own 0 rfl) h.2 | exact Views.oneCell (Views.own 1 rfl) h.2 | exact Views.oneCell (Views.own 2 rfl) h.2 | exact Views.oneCell (Views.own 3 rfl) h.2 | exact Views.oneCell (Views.own 4 rfl) h.2 | exact Views.oneCell (Views.own 5 rfl) h.2 | exact Views.oneCell (by assumption) h.2) 1 rfl rfl ?_)
          | (refine op_storeN h rfl rfl K.sz_S_interleafref18_Node (by first | rfl | assumption | exact Views.oneCell (Views.own 0 rfl) h.2 | exact Views.oneCell (Views.own 1 rfl) h.2 | exact Views.oneCell (Views.own 2 rfl) h.2 | exact Views.oneCell (Views.own 3 rfl) h.2 | exact Views.oneCell (Views.own 4 rfl) h.2 | exact Views.oneCell (Views.own 5 rfl) h.2 | exact Views.oneCell (by assumption) h.2) 2 rfl rfl ?_)
          | (refine op_storeN h rfl rfl K.sz_S_interleafref18_Node (by first | rfl | assumption | exact Views.oneCell (Views.own 0 rfl) h.2 | exact Views.oneCell (Views.own 1 rfl) h.2 | exact Views.oneCell (Views.own 2 rfl) h.2 | exact Views.oneCell (Views.own 3 rfl) h.2 | exact Views.oneCell (Views.own 4 rfl) h.2 | exact Views.oneCell (Views.own 5 rfl) h.2 | exact Views.oneCell (by assumption) h.2) 3 rfl rfl ?_)
          | (refine op_storeN h rfl rfl K.sz_S_interleafref18_Node (by first | rfl | assumption | exact Views.oneCell (Views.own 0 rfl) h.2 | exact Views.oneCell (Views.own 1 rfl) h.2 | exact Views.oneCell (Views.own 2 rfl) h.2 | exact Views.oneCell (Views.own 3 rfl) h.2 | exact Views.oneCell (Views.own 4 rfl) h.2 | exact Views.oneCell (Views.own 5 rfl) h.2 | exact Views.oneCell (by assumption) h.2) 4 rfl rfl ?_)
          | (refine op_storeN h rfl rfl K.sz_S_interleafref18_Node (by first | rfl | assumption | exact Views.oneCell (Views.own 0 rfl) h.2 | exact Views.oneCell (Views.own 1 rfl) h.2 | exact Views.oneCell (Views.own 2 rfl) h.2 | exact Views.oneCell (Views.own 3 rfl) h.2 | exact Views.oneCell (Views.own 4 rfl) h.2 | exact Views.oneCell (Views.own 5 rfl) h.2 | exact Views.oneCell (by assumption) h.2) 5 rfl rfl ?_)
          | (refine op_storeN h rfl rfl K.sz_S_interleafref18_Node (by first | rfl | assumption | exact Views.oneCell (Views.own 0 rfl) h.2 | exact Views.oneCell (Views.own 1 rfl) h.2 | exact Views.oneCell (Views.own 2 rfl) h.2 | exact Views.oneCell (Views.own 3 rfl) h.2 | exact Views.oneCell (Views.own 4 rfl) h.2 | exact Views.oneCell (Views.own 5 rfl) h.2 | exact Views.oneCell (by assumption) h.2) 6 rfl rfl ?_)
          | (refine op_storeC (o := 0) h rfl rfl K.sz_S_interleafref18_Node (by first | rfl | assumption | exact Views.oneCell (Views.own 0 rfl) h.2 | exact Views.oneCell (Views.own 1 rfl) h.2 | exact Views.oneCell (Views.own 2 rfl) h.2 | exact Views.oneCell (Views.own 3 rfl) h.2 | exact Views.oneCell (Views.own 4 rfl) h.2 | exact Views.oneCell (Views.own 5 rfl) h.2 | exact Views.oneCell (by assumption) h.2) 0 rfl ?_)
          | (refine op_storeC (o := 0) h rfl rfl K.sz_S_interleafref18_Node (by first | rfl | assumption | exact Views.oneCell (Views.own 0 rfl) h.2 | exact Views.oneCell (Views.own 1 rfl) h.2 | exact Views.oneCell (Views.own 2 rfl) h.2 | exact Views.oneCell (Views.own 3 rfl) h.2 | exact Views.oneCell (Views.own 4 rfl) h.2 | exact Views.oneCell (Views.own 5 rfl) h.2 | exact Views.oneCell (by assumption) h.2) 1 rfl ?_)
          | (refine op_storeC (o := 0) h rfl rfl K.sz_S_interleafref18_Node (by first | rfl | assumption | exact Views.oneCell (Views.own 0 rfl) h.2 | exact Views.oneCell (Views.own 1 rfl) h.2 | exact Views.oneCell (Views.own 2 rfl) h.2 | exact Views.oneCell (Views.own 3 rfl) h.2 | exact Views.oneCell (Views.own 4 rfl) h.2 | exact Views.oneCell (Views.own 5 rfl) h.2 | exact Views.oneCell (by assumption) h.2) 2 rfl ?_)
          | (refine op_storeC (o := 0) h rfl rfl K.sz_S_interleafref18_Node (by first | rfl | assumption | exact Views.oneCell (Views.own 0 rfl) h.2 | exact Views.oneCell (Views.own 1 rfl) h.2 | exact Views.oneCell (Views.own 2 rfl) h.2 | exact Views.oneCell (Views.own 3 rfl) h.2 | exact Views.oneCell (Views.own 4 rfl) h.2 | exact Views.oneCell (Views.own 5 rfl) h.2 | exact Views.oneCell (by assumption) h.2) 3 rfl ?_)
          | (refine op_storeC (o := 0) h rfl rfl K.sz_S_interleafref18_Node (by first | rfl | assumption | exact Views.oneCell (Views.own 0 rfl) h.2 | exact Views.oneCell (Views.own 1 rfl) h.2 | exact Views.oneCell (Views.own 2 rfl) h.2 | exact Views.oneCell (Views.own 3 rfl) h.2 | exact Views.oneCell (Views.own 4 rfl) h.2 | exact Views.oneCell (Views.own 5 rfl) h.2 | exact Views.oneCell (by assumption) h.2) 4 rfl ?_)
          | (refine op_storeC (o := 0) h rfl rfl K.sz_S_interleafref18_Node (by first | rfl | assumption | exact Views.oneCell (Views.own 0 rfl) h.2 | exact Views.oneCell (Views.own 1 rfl) h.2 | exact Views.oneCell (Views.own 2 rfl) h.2 | exact Views.oneCell (Views.own 3 rfl) h.2 | exact Views.oneCell (Views.own 4 rfl) h.2 | exact Views.oneCell (Views.own 5 rfl) h.2 | exact Views.oneCell (by assumption) h.2) 5 rfl ?_)
          | (refine op_storeC (o := 0) h rfl rfl K.sz_S_interleafref18_Node (by first | rfl | assumption | exact Views.oneCell (Views.own 0 rfl) h.2 | exact Views.oneCell (Views.own 1 rfl) h.2 | exact Views.oneCell (Views.own 2 rfl) h.2 | exact Views.oneCell (Views.own 3 rfl) h.2 | exact Views.oneCell (Views.own 4 rfl) h.2 | exact Views.oneCell (Views.own 5 rfl) h.2 | exact Views.oneCell (by assumption) h.2) 6 rfl ?_)
     clear hD h a w; intro a w h
     (try simp only [List.set_cons_zero, List.set_cons_succ] at h)
     refine d_pay (Paid.nil) (fun hD => ?_)
     refine d_done (by kernel_rfl) ?_
     clear hD
     refine b_normal ?_
     refine c_then ?_
     refine c_region ?_
     refine wv h (r_move h rfl) rfl ?_
     clear h a w; intro a w h
     refine wv h (r_bin h rfl rfl (B.add_i64 (by omega) (by omega))) rfl ?_
     clear h a w; intro a w h
     refine wv h (r_assign h rfl) rfl ?_
     clear h a w; intro a w h
     refine wnil ?_
     replace h : St _ _ _ _ _ (ParsI xs :: OwnM 32 cellsA (.slice A pars.length cap) pars :: OwnM 67 cellsN v57 (xs ++ [xn]) :: Blk b24 _ :: F) := ⟨h.1, (by have q := h.2; replace q := (q.front 2 rfl).tail; replace q := q.front 2 rfl; replace q := q.front 3 rfl; exact q)⟩
     subst hxn
     replace h := h.mem (fun q => Sat.parsMore (x := ⟨rk (i + 1), BA.zero 32, A, pars.length, cap, [], pars⟩) q)
     replace h : St _ _ _ _ _ (OwnM 67 cellsN v57 _ :: Blk b24 _ :: ParsI _ :: F) := ⟨h.1, (by have q := h.2; replace q := q.front 1 rfl; replace q := q.front 2 rfl; replace q := q.front 1 rfl; exact q)⟩
     have hns : nsOf (xs ++ [⟨rk (i + 1), BA.zero 32, A, pars.length, cap, [], pars⟩]) = rowS (i + 1) := by
       rw [rowS, ← h2, ← hz]; simp [nsOf]
     exact ⟨(i + 1, v57, _), h.keep [1, 2, 7, 8, 9], ⟨ht1, hns⟩, by show k - (i + 1) < k - i; omega⟩
   ·
    have hik : i = k := by omega
    subst hik
    have hgood : Sl.Good (nsOf xs) := by rw [h2]; exact row_good _ (by omega)
    obtain ⟨hall, hp, hl⟩ := facts hgood
    obtain ⟨p, hpp⟩ : ∃ p, p = x.toNat % i := ⟨_, rfl⟩
    obtain ⟨q, hqq⟩ : ∃ q, q = y.toNat % i := ⟨_, rfl⟩
    have hpi : p < i := by rw [hpp]; exact Nat.mod_lt _ hk0
    have hqi : q < i := by rw [hqq]; exact Nat.mod_lt _ hk0
    obtain ⟨xt, hxt, hkt⟩ := ns_get h2 (j := i - 1) (by omega)
    rw [show i - 1 + 1 = i by omega] at hkt
    obtain ⟨xp, hxp, hkp⟩ := ns_get h2 (j := p) hpi
    obtain ⟨xq, hxq, hkq⟩ := ns_get h2 (j := q) hqi
    obtain ⟨x0, hx0, hk0k⟩ := ns_get h2 (j := 0) hk0
    have hal1 : al (nsOf xs) (rk i) = (down (i - 1), 0) := by rw [h2]; have := row_al (n := i) (q := i - 1) (by omega) (by omega); rwa [show i - 1 + 1 = i by omega] at this
    have hal2 : allB (nsOf xs) [rk (q + 1)] = (down q, 0) := by rw [h2]; exact row_al (by omega) hqi
    have hok := fun k => allB_ok (all_ex _ hgood.two hgood.few [k] (by simp)) (by simp)
    have hdl := down_len (i - 1)
    have hd0 := down_first (i - 1)
    have hd1 := down_last (i - 1)
    have hdm := down_mem q p (by omega) (by omega)
    rw [show i - 1 + 1 = i by omega] at hdl hd0
    refine c_exit ?_
    refine e_then ?_
    refine e_then ?_
    refine e_here ?_
    refine c_then ?_
    refine c_seq (c_region ?_)
    refine wv h (r_move h rfl) rfl ?_
    clear h a w; intro a w h
    refine wv h (r_conv h rfl K.u_uint16 K.u_int (C.i64_u16) ) rfl ?_
    clear h a w; intro a w h
    refine wv h (r_move h rfl) rfl ?_
    clear h a w; intro a w h
    refine wv h (r_bin h rfl rfl (B.rem_i64 (by omega) (by omega))) rfl ?_
    clear h a w; intro a w h
    rw [← Int.natCast_emod, ← hpp] at h
    refine wv h (r_assign h rfl) rfl ?_
    clear h a w; intro a w h
    refine wnil (c_then ?_)
    refine c_seq (c_region ?_)
    refine wv h (r_move h rfl) rfl ?_
    clear h a w; intro a w h
    refine wv h (r_conv h rfl K.u_uint16 K.u_int (C.i64_u16) ) rfl ?_
    clear h a w; intro a w h
    refine wv h (r_move h rfl) rfl ?_
    clear h a w; intro a w h
    refine wv h (r_bin h rfl rfl (B.rem_i64 (by omega) (by omega))) rfl ?_
    clear h a w; intro a w h
    rw [← Int.natCast_emod, ← hqq] at h
    refine wv h (r_assign h rfl) rfl ?_
    clear h a w; intro a w h
    refine wnil (c_then ?_)
    refine c_seq (c_region ?_)
    refine wv h (r_move h rfl) rfl ?_
    clear h a w; intro a w h
    refine wv h (r_mkIface h rfl K.u_p_interleafref18_Book rfl) rfl ?_
    clear h a w; intro a w h
    refine wv h (r_move h rfl) rfl ?_
    clear h a w; intro a w h
    refine wv h (r_nilCheck h rfl) rfl ?_
    clear h a w; intro a w h
    refine wv h (r_fieldAddr0 h rfl K.u_interleafref18_Book rfl K.sz_S_interleafref18_Node rfl rfl) rfl ?_
    clear h a w; intro a w h
    first
        | (refine wv h (r_ldN h rfl K.u_S_interleafref18_Node rfl 0 rfl rfl) rfl ?_)
        | (refine wv h (r_ldN h rfl K.u_S_interleafref18_Node rfl 1 rfl rfl) rfl ?_)
        | (refine wv h (r_ldN h rfl K.u_S_interleafref18_Node rfl 2 rfl rfl) rfl ?_)
        | (refine wv h (r_ldN h rfl K.u_S_interleafref18_Node rfl 3 rfl rfl) rfl ?_)
        | (refine wv h (r_ldN h rfl K.u_S_interleafref18_Node rfl 4 rfl rfl) rfl ?_)
        | (refine wv h (r_ldN h rfl K.u_S_interleafref18_Node rfl 5 rfl rfl) rfl ?_)
        | (refine wv h (r_ldN h rfl K.u_S_interleafref18_Node rfl 6 rfl rfl) rfl ?_)
        | (refine wv h (r_ldC (o := 0) h rfl K.u_S_interleafref18_Node rfl 0 rfl) rfl ?_)
        | (refine wv h (r_ldC (o := 0) h rfl K.u_S_interleafref18_Node rfl 1 rfl) rfl ?_)
        | (refine wv h (r_ldC (o := 0) h rfl K.u_S_interleafref18_Node rfl 2 rfl) rfl ?_)
        | (refine wv h (r_ldC (o := 0) h rfl K.u_S_interleafref18_Node rfl 3 rfl) rfl ?_)
        | (refine wv h (r_ldC (o := 0) h rfl K.u_S_interleafref18_Node rfl 4 rfl) rfl ?_)
        | (refine wv h (r_ldC (o := 0) h rfl K.u_S_interleafref18_Node rfl 5 rfl) rfl ?_)
        | (refine wv h (r_ldC (o := 0) h rfl K.u_S_interleafref18_Node rfl 6 rfl) rfl ?_)
        | (refine wv h (r_load h rfl K.u_S_interleafref18_Node rfl 0 rfl rfl) rfl ?_)
        | (refine wv h (r_load h rfl K.u_S_interleafref18_Node rfl 1 rfl rfl) rfl ?_)
        | (refine wv h (r_load h rfl K.u_S_interleafref18_Node rfl 2 rfl rfl) rfl ?_)
        | (refine wv h (r_load h rfl K.u_S_interleafref18_Node rfl 3 rfl rfl) rfl ?_)
        | (refine wv h (r_load h rfl K.u_S_interleafref18_Node rfl 4 rfl rfl) rfl ?_)
        | (refine wv h (r_load h rfl K.u_S_interleafref18_Node rfl 5 rfl rfl) rfl ?_)
        | (refine wv h (r_load1 h rfl K.u_S_interleafref18_Node rfl (by assumption)) rfl ?_)
    clear h a w; intro a w h
    refine wv h (r_move h rfl) rfl ?_
    clear h a w; intro a w h
    refine wv h (r_bin h rfl rfl (B.sub_i64 (by omega) (by omega))) rfl ?_
    clear h a w; intro a w h
    rw [show ((i : Int) - 1) = ((i - 1 : Nat) : Int) by omega] at h
    refine wv h (r_elP h rfl rfl K.u_S_interleafref18_Node K.sz_interleafref18_Node (by first | exact Views.own 0 rfl | exact Views.own 1 rfl | exact Views.own 2 rfl | exact Views.own 3 rfl | exact Views.own 4 rfl | exact Views.own 5 rfl | assumption | exact Views.of_drop 1 (by assumption) | exact Views.of_drop 2 (by assumption) | exact Views.of_drop 3 (by assumption) | exact Views.of_drop 4 (by assumption) | exact Views.of_drop 5 (by assumption) | exact Views.of_drop 6 (by assumption) | exact Views.of_drop 7 (by assumption) | exact Views.of_drop 8 (by assumption) | exact Views.of_drop 9 (by assumption) | exact Views.of_drop 10 (by assumption) | exact Views.of_drop 11 (by assumption) | exact Views.of_drop 12 (by assumption)) (by first | omega | (simp; done)) (by first | omega | (simp only [List.length_cons, List.length_nil]; omega) | (simp; done) | (simp; omega))) rfl ?_
    clear h a w; intro a w h
    refine wv h (r_elF h 0 rfl K.u_interleafref18_Node rfl K.sz_api_Key rfl rfl (by first | exact Views.own 0 rfl | exact Views.own 1 rfl | exact Views.own 2 rfl | exact Views.own 3 rfl | exact Views.own 4 rfl | exact Views.own 5 rfl | assumption | exact Views.of_drop 1 (by assumption) | exact Views.of_drop 2 (by assumption) | exact Views.of_drop 3 (by assumption) | exact Views.of_drop 4 (by assumption) | exact Views.of_drop 5 (by assumption) | exact Views.of_drop 6 (by assumption) | exact Views.of_drop 7 (by assumption) | exact Views.of_drop 8 (by assumption) | exact Views.of_drop 9 (by assumption) | exact Views.of_drop 10 (by assumption) | exact Views.of_drop 11 (by assumption) | exact Views.of_drop 12 (by assumption)) (by first | omega | (simp only [List.length_cons, List.length_nil]; omega) | (simp; done) | (simp; omega))) rfl ?_
    clear h a w; intro a w h
    refine wv h (r_elMa (cells := cellsN) h rfl K.u_api_Key rfl K.sz_api_Key (Views.own 0 rfl) hxt (cellsN_key xt) (by rw [bs_length, xt.key.len]) (by decide) rfl) rfl ?_
    clear h a w; intro a w h
    rw [hkt] at h
    refine wl rfl (op_build1 h K.u_S_api_Key K.sz_api_Key K.z_api_Key rfl rfl rfl (by first | exact Row.len _ | rfl | assumption | (simp; done) | (simp; omega) | omega) rfl ?_)
    clear h a w; intro b80 a w h
    refine wl rfl (op_call h rfl K.go_graph_All (g_All s _ b24 (some ⟨b80, 0, none⟩) 1 [rk i] nv xs _ 900 (al (nsOf xs) (rk i)) (one_view (rk i)) (BookV.mk 2 1 3 rfl rfl rfl) (by omega) hp (hok _) h.2) rfl ?_)
    clear h a w; intro v81 a w hv81 h
    (try simp only [List.set_cons_zero, List.set_cons_succ] at h)
    rw [hal1] at h
    refine wv h (r_move h rfl) rfl ?_
    clear h a w; intro a w h
    refine wv h (r_extractN h rfl rfl) rfl ?_
    clear h a w; intro a w h
    refine wv h (r_extractN h rfl rfl) rfl ?_
    clear h a w; intro a w h
    refine wv h (r_assign h rfl) rfl ?_
    clear h a w; intro a w h
    refine wv h (r_assign h rfl) rfl ?_
    clear h a w; intro a w h
    refine wnil (c_then ?_)
    refine c_seq (c_draw K.mixed (by kernel_rfl) h ?_)
    clear h a w; intro a hE
    refine qv hE (fun w hw => r_move ⟨hE, hw⟩ rfl) rfl ?_
    clear hE a; intro a hE
    refine qv hE (fun w hw => r_mkIface ⟨hE, hw⟩ rfl K.u_p_interleafref18_Book rfl) rfl ?_
    clear hE a; intro a hE
    refine qv hE (fun w hw => r_move ⟨hE, hw⟩ rfl) rfl ?_
    clear hE a; intro a hE
    refine qv hE (fun w hw => r_nilCheck ⟨hE, hw⟩ rfl) rfl ?_
    clear hE a; intro a hE
    first
        | (refine qv hE (fun w hw => r_fieldAddr0 ⟨hE, hw⟩ rfl K.u_interleafref18_Book rfl K.sz_S_interleafref18_Node rfl rfl) rfl ?_)
        | (refine qv hE (fun w hw => op_fieldC ⟨hE, hw⟩ 0 rfl K.u_interleafref18_Book rfl K.sz_S_interleafref18_Node rfl rfl (by assumption) rfl) rfl ?_)
    clear hE a; intro a hE
    first
        | (refine qv hE (fun w hw => r_ldN ⟨hE, hw⟩ rfl K.u_S_interleafref18_Node rfl 0 rfl rfl) rfl ?_)
        | (refine qv hE (fun w hw => r_ldN ⟨hE, hw⟩ rfl K.u_S_interleafref18_Node rfl 1 rfl rfl) rfl ?_)
        | (refine qv hE (fun w hw => r_ldN ⟨hE, hw⟩ rfl K.u_S_interleafref18_Node rfl 2 rfl rfl) rfl ?_)
        | (refine qv hE (fun w hw => r_ldN ⟨hE, hw⟩ rfl K.u_S_interleafref18_Node rfl 3 rfl rfl) rfl ?_)
        | (refine qv hE (fun w hw => r_ldN ⟨hE, hw⟩ rfl K.u_S_interleafref18_Node rfl 4 rfl rfl) rfl ?_)
        | (refine qv hE (fun w hw => r_ldN ⟨hE, hw⟩ rfl K.u_S_interleafref18_Node rfl 5 rfl rfl) rfl ?_)
        | (refine qv hE (fun w hw => r_ldN ⟨hE, hw⟩ rfl K.u_S_interleafref18_Node rfl 6 rfl rfl) rfl ?_)
        | (refine qv hE (fun w hw => r_ldC (o := 0) ⟨hE, hw⟩ rfl K.u_S_interleafref18_Node rfl 0 rfl) rfl ?_)
        | (refine qv hE (fun w hw => r_ldC (o := 0) ⟨hE, hw⟩ rfl K.u_S_interleafref18_Node rfl 1 rfl) rfl ?_)
        | (refine qv hE (fun w hw => r_ldC (o := 0) ⟨hE, hw⟩ rfl K.u_S_interleafref18_Node rfl 2 rfl) rfl ?_)
        | (refine qv hE (fun w hw => r_ldC (o := 0) ⟨hE, hw⟩ rfl K.u_S_interleafref18_Node rfl 3 rfl) rfl ?_)
        | (refine qv hE (fun w hw => r_ldC (o := 0) ⟨hE, hw⟩ rfl K.u_S_interleafref18_Node rfl 4 rfl) rfl ?_)
        | (refine qv hE (fun w hw => r_ldC (o := 0) ⟨hE, hw⟩ rfl K.u_S_interleafref18_Node rfl 5 rfl) rfl ?_)
        | (refine qv hE (fun w hw => r_ldC (o := 0) ⟨hE, hw⟩ rfl K.u_S_interleafref18_Node rfl 6 rfl) rfl ?_)
        | (refine qv hE (fun w hw => r_load ⟨hE, hw⟩ rfl K.u_S_interleafref18_Node rfl 0 rfl rfl) rfl ?_)
        | (refine qv hE (fun w hw => r_load ⟨hE, hw⟩ rfl K.u_S_interleafref18_Node rfl 1 rfl rfl) rfl ?_)
        | (refine qv hE (fun w hw => r_load ⟨hE, hw⟩ rfl K.u_S_interleafref18_Node rfl 2 rfl rfl) rfl ?_)
        | (refine qv hE (fun w hw => r_load ⟨hE, hw⟩ rfl K.u_S_interleafref18_Node rfl 3 rfl rfl) rfl ?_)
        | (refine qv hE (fun w hw => r_load ⟨hE, hw⟩ rfl K.u_S_interleafref18_Node rfl 4 rfl rfl) rfl ?_)
        | (refine qv hE (fun w hw => r_load ⟨hE, hw⟩ rfl K.u_S_interleafref18_Node rfl 5 rfl rfl) rfl ?_)
        | (refine qv hE (fun w hw => r_load1 ⟨hE, hw⟩ rfl K.u_S_interleafref18_Node rfl (by assumption)) rfl ?_)
    clear hE a; intro a hE
    refine qv hE (fun w hw => r_move ⟨hE, hw⟩ rfl) rfl ?_
    clear hE a; intro a hE
    refine qv hE (fun w hw => r_elP ⟨hE, hw⟩ rfl rfl K.u_S_interleafref18_Node K.sz_interleafref18_Node (by first | exact Views.own 0 rfl | exact Views.own 1 rfl | exact Views.own 2 rfl | exact Views.own 3 rfl | exact Views.own 4 rfl | exact Views.own 5 rfl | assumption | exact Views.of_drop 1 (by assumption) | exact Views.of_drop 2 (by assumption) | exact Views.of_drop 3 (by assumption) | exact Views.of_drop 4 (by assumption) | exact Views.of_drop 5 (by assumption) | exact Views.of_drop 6 (by assumption) | exact Views.of_drop 7 (by assumption) | exact Views.of_drop 8 (by assumption) | exact Views.of_drop 9 (by assumption) | exact Views.of_drop 10 (by assumption) | exact Views.of_drop 11 (by assumption) | exact Views.of_drop 12 (by assumption)) (by first | omega | (simp; done)) (by first | omega | (simp only [List.length_cons, List.length_nil]; omega) | (simp; done) | (simp; omega))) rfl ?_
    clear hE a; intro a hE
    refine qv hE (fun w hw => r_elF ⟨hE, hw⟩ 0 rfl K.u_interleafref18_Node rfl K.sz_api_Key rfl rfl (by first | exact Views.own 0 rfl | exact Views.own 1 rfl | exact Views.own 2 rfl | exact Views.own 3 rfl | exact Views.own 4 rfl | exact Views.own 5 rfl | assumption | exact Views.of_drop 1 (by assumption) | exact Views.of_drop 2 (by assumption) | exact Views.of_drop 3 (by assumption) | exact Views.of_drop 4 (by assumption) | exact Views.of_drop 5 (by assumption) | exact Views.of_drop 6 (by assumption) | exact Views.of_drop 7 (by assumption) | exact Views.of_drop 8 (by assumption) | exact Views.of_drop 9 (by assumption) | exact Views.of_drop 10 (by assumption) | exact Views.of_drop 11 (by assumption) | exact Views.of_drop 12 (by assumption)) (by first | omega | (simp only [List.length_cons, List.length_nil]; omega) | (simp; done) | (simp; omega))) rfl ?_
    clear hE a; intro a hE
    refine qv hE (fun w hw => r_elMa (cells := cellsN) ⟨hE, hw⟩ rfl K.u_api_Key rfl K.sz_api_Key (Views.own 2 rfl) hxp (cellsN_key xp) (by rw [bs_length, xp.key.len]) (by decide) rfl) rfl ?_
    clear hE a; intro a hE
    rw [hkp] at hE
    refine qv hE (fun w hw => r_move ⟨hE, hw⟩ rfl) rfl ?_
    clear hE a; intro a hE
    refine qv hE (fun w hw => r_nilCheck ⟨hE, hw⟩ rfl) rfl ?_
    clear hE a; intro a hE
    first
        | (refine qv hE (fun w hw => r_fieldAddr0 ⟨hE, hw⟩ rfl K.u_interleafref18_Book rfl K.sz_S_interleafref18_Node rfl rfl) rfl ?_)
        | (refine qv hE (fun w hw => op_fieldC ⟨hE, hw⟩ 0 rfl K.u_interleafref18_Book rfl K.sz_S_interleafref18_Node rfl rfl (by assumption) rfl) rfl ?_)
    clear hE a; intro a hE
    first
        | (refine qv hE (fun w hw => r_ldN ⟨hE, hw⟩ rfl K.u_S_interleafref18_Node rfl 0 rfl rfl) rfl ?_)
        | (refine qv hE (fun w hw => r_ldN ⟨hE, hw⟩ rfl K.u_S_interleafref18_Node rfl 1 rfl rfl) rfl ?_)
        | (refine qv hE (fun w hw => r_ldN ⟨hE, hw⟩ rfl K.u_S_interleafref18_Node rfl 2 rfl rfl) rfl ?_)
        | (refine qv hE (fun w hw => r_ldN ⟨hE, hw⟩ rfl K.u_S_interleafref18_Node rfl 3 rfl rfl) rfl ?_)
        | (refine qv hE (fun w hw => r_ldN ⟨hE, hw⟩ rfl K.u_S_interleafref18_Node rfl 4 rfl rfl) rfl ?_)
        | (refine qv hE (fun w hw => r_ldN ⟨hE, hw⟩ rfl K.u_S_interleafref18_Node rfl 5 rfl rfl) rfl ?_)
        | (refine qv hE (fun w hw => r_ldN ⟨hE, hw⟩ rfl K.u_S_interleafref18_Node rfl 6 rfl rfl) rfl ?_)
        | (refine qv hE (fun w hw => r_ldC (o := 0) ⟨hE, hw⟩ rfl K.u_S_interleafref18_Node rfl 0 rfl) rfl ?_)
        | (refine qv hE (fun w hw => r_ldC (o := 0) ⟨hE, hw⟩ rfl K.u_S_interleafref18_Node rfl 1 rfl) rfl ?_)
        | (refine qv hE (fun w hw => r_ldC (o := 0) ⟨hE, hw⟩ rfl K.u_S_interleafref18_Node rfl 2 rfl) rfl ?_)
        | (refine qv hE (fun w hw => r_ldC (o := 0) ⟨hE, hw⟩ rfl K.u_S_interleafref18_Node rfl 3 rfl) rfl ?_)
        | (refine qv hE (fun w hw => r_ldC (o := 0) ⟨hE, hw⟩ rfl K.u_S_interleafref18_Node rfl 4 rfl) rfl ?_)
        | (refine qv hE (fun w hw => r_ldC (o := 0) ⟨hE, hw⟩ rfl K.u_S_interleafref18_Node rfl 5 rfl) rfl ?_)
        | (refine qv hE (fun w hw => r_ldC (o := 0) ⟨hE, hw⟩ rfl K.u_S_interleafref18_Node rfl 6 rfl) rfl ?_)
        | (refine qv hE (fun w hw => r_load ⟨hE, hw⟩ rfl K.u_S_interleafref18_Node rfl 0 rfl rfl) rfl ?_)
        | (refine qv hE (fun w hw => r_load ⟨hE, hw⟩ rfl K.u_S_interleafref18_Node rfl 1 rfl rfl) rfl ?_)
        | (refine qv hE (fun w hw => r_load ⟨hE, hw⟩ rfl K.u_S_interleafref18_Node rfl 2 rfl rfl) rfl ?_)
        | (refine qv hE (fun w hw => r_load ⟨hE, hw⟩ rfl K.u_S_interleafref18_Node rfl 3 rfl rfl) rfl ?_)
        | (refine qv hE (fun w hw => r_load ⟨hE, hw⟩ rfl K.u_S_interleafref18_Node rfl 4 rfl rfl) rfl ?_)
        | (refine qv hE (fun w hw => r_load ⟨hE, hw⟩ rfl K.u_S_interleafref18_Node rfl 5 rfl rfl) rfl ?_)
        | (refine qv hE (fun w hw => r_load1 ⟨hE, hw⟩ rfl K.u_S_interleafref18_Node rfl (by assumption)) rfl ?_)
    clear hE a; intro a hE
    refine qv hE (fun w hw => r_move ⟨hE, hw⟩ rfl) rfl ?_
    clear hE a; intro a hE
    refine qv hE (fun w hw => r_elP ⟨hE, hw⟩ rfl rfl K.u_S_interleafref18_Node K.sz_interleafref18_Node (by first | exact Views.own 0 rfl | exact Views.own 1 rfl | exact Views.own 2 rfl | exact Views.own 3 rfl | exact Views.own 4 rfl | exact Views.own 5 rfl | assumption | exact Views.of_drop 1 (by assumption) | exact Views.of_drop 2 (by assumption) | exact Views.of_drop 3 (by assumption) | exact Views.of_drop 4 (by assumption) | exact Views.of_drop 5 (by assumption) | exact Views.of_drop 6 (by assumption) | exact Views.of_drop 7 (by assumption) | exact Views.of_drop 8 (by assumption) | exact Views.of_drop 9 (by assumption) | exact Views.of_drop 10 (by assumption) | exact Views.of_drop 11 (by assumption) | exact Views.of_drop 12 (by assumption)) (by first | omega | (simp; done)) (by first | omega | (simp only [List.length_cons, List.length_nil]; omega) | (simp; done) | (simp; omega))) rfl ?_
    clear hE a; intro a hE
    refine qv hE (fun w hw => r_elF ⟨hE, hw⟩ 0 rfl K.u_interleafref18_Node rfl K.sz_api_Key rfl rfl (by first | exact Views.own 0 rfl | exact Views.own 1 rfl | exact Views.own 2 rfl | exact Views.own 3 rfl | exact Views.own 4 rfl | exact Views.own 5 rfl | assumption | exact Views.of_drop 1 (by assumption) | exact Views.of_drop 2 (by assumption) | exact Views.of_drop 3 (by assumption) | exact Views.of_drop 4 (by assumption) | exact Views.of_drop 5 (by assumption) | exact Views.of_drop 6 (by assumption) | exact Views.of_drop 7 (by assumption) | exact Views.of_drop 8 (by assumption) | exact Views.of_drop 9 (by assumption) | exact Views.of_drop 10 (by assumption) | exact Views.of_drop 11 (by assumption) | exact Views.of_drop 12 (by assumption)) (by first | omega | (simp only [List.length_cons, List.length_nil]; omega) | (simp; done) | (simp; omega))) rfl ?_
    clear hE a; intro a hE
    refine qv hE (fun w hw => r_elMa (cells := cellsN) ⟨hE, hw⟩ rfl K.u_api_Key rfl K.sz_api_Key (Views.own 2 rfl) hxq (cellsN_key xq) (by rw [bs_length, xq.key.len]) (by decide) rfl) rfl ?_
    clear hE a; intro a hE
    rw [hkq] at hE
    refine q_c hE rfl K.go_graph_Ahead (fun w hw => g_Ahead s _ b24 (rk (p + 1)) (rk (q + 1)) nv xs _ 900 (allB (nsOf xs) [rk (q + 1)]) (BookV.mk 3 2 4 rfl rfl rfl) (by omega) hp (hok _) (by have := (hok (rk (q + 1))).len; omega) hw) rfl ?_
    clear hE a; intro a hE
    rw [hal2, show decide (rk (p + 1) ∈ (down q, (0 : Int)).1) = decide (p ≤ q) from decide_eq_decide.2 hdm] at hE
    refine qv hE (fun w hw => r_move ⟨hE, hw⟩ rfl) rfl ?_
    clear hE a; intro a hE
    refine qv hE (fun w hw => r_extractN ⟨hE, hw⟩ rfl rfl) rfl ?_
    clear hE a; intro a hE
    refine qv hE (fun w hw => r_extractN ⟨hE, hw⟩ rfl rfl) rfl ?_
    clear hE a; intro a hE
    refine qv hE (fun w hw => r_assign ⟨hE, hw⟩ rfl) rfl ?_
    clear hE a; intro a hE
    refine qv hE (fun w hw => r_assign ⟨hE, hw⟩ rfl) rfl ?_
    clear hE a; intro a hE
    refine qnil hE ?_
    clear hE a; intro a w h
    refine c_then ?_
    refine c_seq (c_draw K.mixed (by kernel_rfl) h ?_)
    clear h a w; intro a hE
    refine qv hE (fun w hw => r_move ⟨hE, hw⟩ rfl) rfl ?_
    clear hE a; intro a hE
    refine qv hE (fun w hw => r_bin ⟨hE, hw⟩ rfl rfl (B.eql_int)) rfl ?_
    clear hE a; intro a hE
    refine qv hE (fun w hw => r_move ⟨hE, hw⟩ rfl) rfl ?_
    clear hE a; intro a hE
    refine qvG hE (by first | exact .t rfl | exact .f rfl | exact .gt rfl | exact .gf rfl) (fun hg w hw => by (try simp only [↓gval_on hg, ↓gval_and hg] at hE); (have hg2 := hg; (try simp only [Bool.and_eq_true, Bool.or_eq_true, Bool.not_eq_true', decide_eq_true_eq, decide_eq_false_iff_not] at hg2)); first | exact r_move ⟨hE, hw⟩ rfl) rfl ?_
    clear hE a; intro a hE
    refine qvG hE (by first | exact .t rfl | exact .f rfl | exact .gt rfl | exact .gf rfl) (fun hg w hw => by (try simp only [↓gval_on hg, ↓gval_and hg] at hE); (have hg2 := hg; (try simp only [Bool.and_eq_true, Bool.or_eq_true, Bool.not_eq_true', decide_eq_true_eq, decide_eq_false_iff_not] at hg2)); first | exact r_bin ⟨hE, hw⟩ rfl rfl (B.eql_int)) rfl ?_
    clear hE a; intro a hE
    first
        | (refine qv hE (fun w hw => r_pickA ⟨hE, hw⟩ rfl rfl rfl) rfl ?_)
        | (refine qv hE (fun w hw => r_pickO ⟨hE, hw⟩ rfl rfl rfl) rfl ?_)
        | (refine qv hE (fun w hw => r_pick_true ⟨hE, hw⟩ rfl rfl) rfl ?_)
        | (refine qv hE (fun w hw => r_pick_false ⟨hE, hw⟩ rfl rfl) rfl ?_)
        | (refine qv hE (fun w hw => r_pick ⟨hE, hw⟩ rfl rfl rfl) rfl ?_)
    clear hE a; intro a hE
    refine qv hE (fun w hw => r_move ⟨hE, hw⟩ rfl) rfl ?_
    clear hE a; intro a hE
    refine qvG hE (by first | exact .t rfl | exact .f rfl | exact .gt rfl | exact .gf rfl) (fun hg w hw => by (try simp only [↓gval_on hg, ↓gval_and hg] at hE); (have hg2 := hg; (try simp only [Bool.and_eq_true, Bool.or_eq_true, Bool.not_eq_true', decide_eq_true_eq, decide_eq_false_iff_not] at hg2)); first | exact r_move ⟨hE, hw⟩ rfl) rfl ?_
    clear hE a; intro a hE
    refine qvG hE (by first | exact .t rfl | exact .f rfl | exact .gt rfl | exact .gf rfl) (fun hg w hw => by (try simp only [↓gval_on hg, ↓gval_and hg] at hE); (have hg2 := hg; (try simp only [Bool.and_eq_true, Bool.or_eq_true, Bool.not_eq_true', decide_eq_true_eq, decide_eq_false_iff_not] at hg2)); first | exact r_lenV ⟨hE, hw⟩ rfl K.u_S_api_Key (by first | exact Views.own 0 rfl | exact Views.own 1 rfl | exact Views.own 2 rfl | exact Views.own 3 rfl | exact Views.own 4 rfl | exact Views.own 5 rfl | assumption | exact Views.of_drop 1 (by assumption) | exact Views.of_drop 2 (by assumption) | exact Views.of_drop 3 (by assumption) | exact Views.of_drop 4 (by assumption) | exact Views.of_drop 5 (by assumption) | exact Views.of_drop 6 (by assumption) | exact Views.of_drop 7 (by assumption) | exact Views.of_drop 8 (by assumption) | exact Views.of_drop 9 (by assumption) | exact Views.of_drop 10 (by assumption) | exact Views.of_drop 11 (by assumption) | exact Views.of_drop 12 (by assumption))) rfl ?_
    clear hE a; intro a hE
    refine qvG hE (by first | exact .t rfl | exact .f rfl | exact .gt rfl | exact .gf rfl) (fun hg w hw => by (try simp only [↓gval_on hg, ↓gval_and hg] at hE); (have hg2 := hg; (try simp only [Bool.and_eq_true, Bool.or_eq_true, Bool.not_eq_true', decide_eq_true_eq, decide_eq_false_iff_not] at hg2)); first | exact r_move ⟨hE, hw⟩ rfl) rfl ?_
    clear hE a; intro a hE
    refine qvG hE (by first | exact .t rfl | exact .f rfl | exact .gt rfl | exact .gf rfl) (fun hg w hw => by (try simp only [↓gval_on hg, ↓gval_and hg] at hE); (have hg2 := hg; (try simp only [Bool.and_eq_true, Bool.or_eq_true, Bool.not_eq_true', decide_eq_true_eq, decide_eq_false_iff_not] at hg2)); first | exact r_bin ⟨hE, hw⟩ rfl rfl (B.eql_int)) rfl ?_
    clear hE a; intro a hE
    first
        | (refine qv hE (fun w hw => r_pickA ⟨hE, hw⟩ rfl rfl rfl) rfl ?_)
        | (refine qv hE (fun w hw => r_pickO ⟨hE, hw⟩ rfl rfl rfl) rfl ?_)
        | (refine qv hE (fun w hw => r_pick_true ⟨hE, hw⟩ rfl rfl) rfl ?_)
        | (refine qv hE (fun w hw => r_pick_false ⟨hE, hw⟩ rfl rfl) rfl ?_)
        | (refine qv hE (fun w hw => r_pick ⟨hE, hw⟩ rfl rfl rfl) rfl ?_)
    clear hE a; intro a hE
    refine qv hE (fun w hw => r_move ⟨hE, hw⟩ rfl) rfl ?_
    clear hE a; intro a hE
    refine qvG hE (by first | exact .t rfl | exact .f rfl | exact .gt rfl | exact .gf rfl) (fun hg w hw => by (try simp only [↓gval_on hg, ↓gval_and hg] at hE); (have hg2 := hg; (try simp only [Bool.and_eq_true, Bool.or_eq_true, Bool.not_eq_true', decide_eq_true_eq, decide_eq_false_iff_not] at hg2)); first | exact r_move ⟨hE, hw⟩ rfl) rfl ?_
    clear hE a; intro a hE
    refine qvG hE (by first | exact .t rfl | exact .f rfl | exact .gt rfl | exact .gf rfl) (fun hg w hw => by (try simp only [↓gval_on hg, ↓gval_and hg] at hE); (have hg2 := hg; (try simp only [Bool.and_eq_true, Bool.or_eq_true, Bool.not_eq_true', decide_eq_true_eq, decide_eq_false_iff_not] at hg2)); first | exact r_elP ⟨hE, hw⟩ rfl rfl K.u_S_api_Key K.sz_api_Key (by first | exact Views.own 0 rfl | exact Views.own 1 rfl | exact Views.own 2 rfl | exact Views.own 3 rfl | exact Views.own 4 rfl | exact Views.own 5 rfl | assumption | exact Views.of_drop 1 (by assumption) | exact Views.of_drop 2 (by assumption) | exact Views.of_drop 3 (by assumption) | exact Views.of_drop 4 (by assumption) | exact Views.of_drop 5 (by assumption) | exact Views.of_drop 6 (by assumption) | exact Views.of_drop 7 (by assumption) | exact Views.of_drop 8 (by assumption) | exact Views.of_drop 9 (by assumption) | exact Views.of_drop 10 (by assumption) | exact Views.of_drop 11 (by assumption) | exact Views.of_drop 12 (by assumption)) (by first | omega | (simp; done)) (by first | omega | (simp only [List.length_cons, List.length_nil]; omega) | (simp; done) | (simp; omega))) rfl ?_
    clear hE a; intro a hE
    refine qvG hE (by first | exact .t rfl | exact .f rfl | exact .gt rfl | exact .gf rfl) (fun hg w hw => by (try simp only [↓gval_on hg, ↓gval_and hg] at hE); exact r_elM (cells := cellsA) ⟨hE, hw⟩ rfl K.u_api_Key rfl K.sz_api_Key rfl (Views.own 0 rfl) hd0) rfl ?_
    clear hE a; intro a hE
    refine qvG hE (by first | exact .t rfl | exact .f rfl | exact .gt rfl | exact .gf rfl) (fun hg w hw => by (try simp only [↓gval_on hg, ↓gval_and hg] at hE); (have hg2 := hg; (try simp only [Bool.and_eq_true, Bool.or_eq_true, Bool.not_eq_true', decide_eq_true_eq, decide_eq_false_iff_not] at hg2)); first | exact r_move ⟨hE, hw⟩ rfl) rfl ?_
    clear hE a; intro a hE
    refine qvG hE (by first | exact .t rfl | exact .f rfl | exact .gt rfl | exact .gf rfl) (fun hg w hw => by (try simp only [↓gval_on hg, ↓gval_and hg] at hE); (have hg2 := hg; (try simp only [Bool.and_eq_true, Bool.or_eq_true, Bool.not_eq_true', decide_eq_true_eq, decide_eq_false_iff_not] at hg2)); first | exact r_nilCheck ⟨hE, hw⟩ rfl) rfl ?_
    clear hE a; intro a hE
    refine qvG hE (by first | exact .t rfl | exact .f rfl | exact .gt rfl | exact .gf rfl) (fun hg w hw => by (try simp only [↓gval_on hg, ↓gval_and hg] at hE); (have hg2 := hg; (try simp only [Bool.and_eq_true, Bool.or_eq_true, Bool.not_eq_true', decide_eq_true_eq, decide_eq_false_iff_not] at hg2)); first | exact r_fieldAddr0 ⟨hE, hw⟩ rfl K.u_interleafref18_Book rfl K.sz_S_interleafref18_Node rfl rfl | exact op_fieldC ⟨hE, hw⟩ 0 rfl K.u_interleafref18_Book rfl K.sz_S_interleafref18_Node rfl rfl (by assumption) rfl) rfl ?_
    clear hE a; intro a hE
    refine qvG hE (by first | exact .t rfl | exact .f rfl | exact .gt rfl | exact .gf rfl) (fun hg w hw => by (try simp only [↓gval_on hg, ↓gval_and hg] at hE); (have hg2 := hg; (try simp only [Bool.and_eq_true, Bool.or_eq_true, Bool.not_eq_true', decide_eq_true_eq, decide_eq_false_iff_not] at hg2)); first | exact r_ldN ⟨hE, hw⟩ rfl K.u_S_interleafref18_Node rfl 0 rfl rfl | exact r_ldN ⟨hE, hw⟩ rfl K.u_S_interleafref18_Node rfl 1 rfl rfl | exact r_ldN ⟨hE, hw⟩ rfl K.u_S_interleafref18_Node rfl 2 rfl rfl | exact r_ldN ⟨hE, hw⟩ rfl K.u_S_interleafref18_Node rfl 3 rfl rfl | exact r_ldN ⟨hE, hw⟩ rfl K.u_S_interleafref18_Node rfl 4 rfl rfl | exact r_ldN ⟨hE, hw⟩ rfl K.u_S_interleafref18_Node rfl 5 rfl rfl | exact r_ldN ⟨hE, hw⟩ rfl K.u_S_interleafref18_Node rfl 6 rfl rfl | exact r_ldC (o := 0) ⟨hE, hw⟩ rfl K.u_S_interleafref18_Node rfl 0 rfl | exact r_ldC (o := 0) ⟨hE, hw⟩ rfl K.u_S_interleafref18_Node rfl 1 rfl | exact r_ldC (o := 0) ⟨hE, hw⟩ rfl K.u_S_interleafref18_Node rfl 2 rfl | exact r_ldC (o := 0) ⟨hE, hw⟩ rfl K.u_S_interleafref18_Node rfl 3 rfl | exact r_ldC (o := 0) ⟨hE, hw⟩ rfl K.u_S_interleafref18_Node rfl 4 rfl | exact r_ldC (o := 0) ⟨hE, hw⟩ rfl K.u_S_interleafref18_Node rfl 5 rfl | exact r_ldC (o := 0) ⟨hE, hw⟩ rfl K.u_S_interleafref18_Node rfl 6 rfl | exact r_load ⟨hE, hw⟩ rfl K.u_S_interleafref18_Node rfl 0 rfl rfl | exact r_load ⟨hE, hw⟩ rfl K.u_S_interleafref18_Node rfl 1 rfl rfl | exact r_load ⟨hE, hw⟩ rfl K.u_S_interleafref18_Node rfl 2 rfl rfl | exact r_load ⟨hE, hw⟩ rfl K.u_S_interleafref18_Node rfl 3 rfl rfl | exact r_load ⟨hE, hw⟩ rfl K.u_S_interleafref18_Node rfl 4 rfl rfl | exact r_load ⟨hE, hw⟩ rfl K.u_S_interleafref18_Node rfl 5 rfl rfl | exact r_load1 ⟨hE, hw⟩ rfl K.u_S_interleafref18_Node rfl (by assumption)) rfl ?_
    clear hE a; intro a hE
    refine qvG hE (by first | exact .t rfl | exact .f rfl | exact .gt rfl | exact .gf rfl) (fun hg w hw => by (try simp only [↓gval_on hg, ↓gval_and hg] at hE); (have hg2 := hg; (try simp only [Bool.and_eq_true, Bool.or_eq_true, Bool.not_eq_true', decide_eq_true_eq, decide_eq_false_iff_not] at hg2)); first | exact r_move ⟨hE, hw⟩ rfl) rfl ?_
    clear hE a; intro a hE
    refine qvG hE (by first | exact .t rfl | exact .f rfl | exact .gt rfl | exact .gf rfl) (fun hg w hw => by (try simp only [↓gval_on hg, ↓gval_and hg] at hE); (have hg2 := hg; (try simp only [Bool.and_eq_true, Bool.or_eq_true, Bool.not_eq_true', decide_eq_true_eq, decide_eq_false_iff_not] at hg2)); first | exact r_bin ⟨hE, hw⟩ rfl rfl (B.sub_i64 (by omega) (by omega))) rfl ?_
    clear hE a; intro a hE
    rw [show ((i : Int) - 1) = ((i - 1 : Nat) : Int) by omega] at hE
    refine qvG hE (by first | exact .t rfl | exact .f rfl | exact .gt rfl | exact .gf rfl) (fun hg w hw => by (try simp only [↓gval_on hg, ↓gval_and hg] at hE); (have hg2 := hg; (try simp only [Bool.and_eq_true, Bool.or_eq_true, Bool.not_eq_true', decide_eq_true_eq, decide_eq_false_iff_not] at hg2)); first | exact r_elP ⟨hE, hw⟩ rfl rfl K.u_S_interleafref18_Node K.sz_interleafref18_Node (by first | exact Views.own 0 rfl | exact Views.own 1 rfl | exact Views.own 2 rfl | exact Views.own 3 rfl | exact Views.own 4 rfl | exact Views.own 5 rfl | assumption | exact Views.of_drop 1 (by assumption) | exact Views.of_drop 2 (by assumption) | exact Views.of_drop 3 (by assumption) | exact Views.of_drop 4 (by assumption) | exact Views.of_drop 5 (by assumption) | exact Views.of_drop 6 (by assumption) | exact Views.of_drop 7 (by assumption) | exact Views.of_drop 8 (by assumption) | exact Views.of_drop 9 (by assumption) | exact Views.of_drop 10 (by assumption) | exact Views.of_drop 11 (by assumption) | exact Views.of_drop 12 (by assumption)) (by first | omega | (simp; done)) (by first | omega | (simp only [List.length_cons, List.length_nil]; omega) | (simp; done) | (simp; omega))) rfl ?_
    clear hE a; intro a hE
    refine qvG hE (by first | exact .t rfl | exact .f rfl | exact .gt rfl | exact .gf rfl) (fun hg w hw => by (try simp only [↓gval_on hg, ↓gval_and hg] at hE); (have hg2 := hg; (try simp only [Bool.and_eq_true, Bool.or_eq_true, Bool.not_eq_true', decide_eq_true_eq, decide_eq_false_iff_not] at hg2)); first | exact r_elF ⟨hE, hw⟩ 0 rfl K.u_interleafref18_Node rfl K.sz_api_Key rfl rfl (by first | exact Views.own 0 rfl | exact Views.own 1 rfl | exact Views.own 2 rfl | exact Views.own 3 rfl | exact Views.own 4 rfl | exact Views.own 5 rfl | assumption | exact Views.of_drop 1 (by assumption) | exact Views.of_drop 2 (by assumption) | exact Views.of_drop 3 (by assumption) | exact Views.of_drop 4 (by assumption) | exact Views.of_drop 5 (by assumption) | exact Views.of_drop 6 (by assumption) | exact Views.of_drop 7 (by assumption) | exact Views.of_drop 8 (by assumption) | exact Views.of_drop 9 (by assumption) | exact Views.of_drop 10 (by assumption) | exact Views.of_drop 11 (by assumption) | exact Views.of_drop 12 (by assumption)) (by first | omega | (simp only [List.length_cons, List.length_nil]; omega) | (simp; done) | (simp; omega))) rfl ?_
    clear hE a; intro a hE
    refine qvG hE (by first | exact .t rfl | exact .f rfl | exact .gt rfl | exact .gf rfl) (fun hg w hw => by (try simp only [↓gval_on hg, ↓gval_and hg] at hE); exact r_elMa (cells := cellsN) (us := bs (rk i).val) ⟨hE, hw⟩ rfl K.u_api_Key rfl K.sz_api_Key (Views.own 2 rfl) hxt (by rw [← hkt]; exact cellsN_key xt) (by rw [bs_length, (rk i).len]) (by decide) rfl) rfl ?_
    clear hE a; intro a hE
    refine qvG hE (by first | exact .t rfl | exact .f rfl | exact .gt rfl | exact .gf rfl) (fun hg w hw => by (try simp only [↓gval_on hg, ↓gval_and hg] at hE); (have hg2 := hg; (try simp only [Bool.and_eq_true, Bool.or_eq_true, Bool.not_eq_true', decide_eq_true_eq, decide_eq_false_iff_not] at hg2)); first | exact r_arreq ⟨hE, hw⟩ rfl rfl K.u_api_Key K.u_uint8 K.sz_uint8 (by kernel_rfl) (by first | rfl | assumption | (simp; done) | (simp; omega) | omega) (by first | rfl | assumption | (simp; done) | (simp; omega) | omega)) rfl ?_
    clear hE a; intro a hE
    first
        | (refine qv hE (fun w hw => r_pickA ⟨hE, hw⟩ rfl rfl rfl) rfl ?_)
        | (refine qv hE (fun w hw => r_pickO ⟨hE, hw⟩ rfl rfl rfl) rfl ?_)
        | (refine qv hE (fun w hw => r_pick_true ⟨hE, hw⟩ rfl rfl) rfl ?_)
        | (refine qv hE (fun w hw => r_pick_false ⟨hE, hw⟩ rfl rfl) rfl ?_)
        | (refine qv hE (fun w hw => r_pick ⟨hE, hw⟩ rfl rfl rfl) rfl ?_)
    clear hE a; intro a hE
    refine qv hE (fun w hw => r_move ⟨hE, hw⟩ rfl) rfl ?_
    clear hE a; intro a hE
    refine qvG hE (by first | exact .t rfl | exact .f rfl | exact .gt rfl | exact .gf rfl) (fun hg w hw => by (try simp only [↓gval_on hg, ↓gval_and hg] at hE); (have hg2 := hg; (try simp only [Bool.and_eq_true, Bool.or_eq_true, Bool.not_eq_true', decide_eq_true_eq, decide_eq_false_iff_not] at hg2)); first | exact r_move ⟨hE, hw⟩ rfl) rfl ?_
    clear hE a; intro a hE
    refine qvG hE (by first | exact .t rfl | exact .f rfl | exact .gt rfl | exact .gf rfl) (fun hg w hw => by (try simp only [↓gval_on hg, ↓gval_and hg] at hE); (have hg2 := hg; (try simp only [Bool.and_eq_true, Bool.or_eq_true, Bool.not_eq_true', decide_eq_true_eq, decide_eq_false_iff_not] at hg2)); first | exact r_move ⟨hE, hw⟩ rfl) rfl ?_
    clear hE a; intro a hE
    refine qvG hE (by first | exact .t rfl | exact .f rfl | exact .gt rfl | exact .gf rfl) (fun hg w hw => by (try simp only [↓gval_on hg, ↓gval_and hg] at hE); (have hg2 := hg; (try simp only [Bool.and_eq_true, Bool.or_eq_true, Bool.not_eq_true', decide_eq_true_eq, decide_eq_false_iff_not] at hg2)); first | exact r_bin ⟨hE, hw⟩ rfl rfl (B.sub_i64 (by omega) (by omega))) rfl ?_
    clear hE a; intro a hE
    rw [show ((i : Int) - 1) = ((i - 1 : Nat) : Int) by omega] at hE
    refine qvG hE (by first | exact .t rfl | exact .f rfl | exact .gt rfl | exact .gf rfl) (fun hg w hw => by (try simp only [↓gval_on hg, ↓gval_and hg] at hE); (have hg2 := hg; (try simp only [Bool.and_eq_true, Bool.or_eq_true, Bool.not_eq_true', decide_eq_true_eq, decide_eq_false_iff_not] at hg2)); first | exact r_elP ⟨hE, hw⟩ rfl rfl K.u_S_api_Key K.sz_api_Key (by first | exact Views.own 0 rfl | exact Views.own 1 rfl | exact Views.own 2 rfl | exact Views.own 3 rfl | exact Views.own 4 rfl | exact Views.own 5 rfl | assumption | exact Views.of_drop 1 (by assumption) | exact Views.of_drop 2 (by assumption) | exact Views.of_drop 3 (by assumption) | exact Views.of_drop 4 (by assumption) | exact Views.of_drop 5 (by assumption) | exact Views.of_drop 6 (by assumption) | exact Views.of_drop 7 (by assumption) | exact Views.of_drop 8 (by assumption) | exact Views.of_drop 9 (by assumption) | exact Views.of_drop 10 (by assumption) | exact Views.of_drop 11 (by assumption) | exact Views.of_drop 12 (by assumption)) (by first | omega | (simp; done)) (by first | omega | (simp only [List.length_cons, List.length_nil]; omega) | (simp; done) | (simp; omega))) rfl ?_
    clear hE a; intro a hE
    refine qvG hE (by first | exact .t rfl | exact .f rfl | exact .gt rfl | exact .gf rfl) (fun hg w hw => by (try simp only [↓gval_on hg, ↓gval_and hg] at hE); exact r_elM (cells := cellsA) ⟨hE, hw⟩ rfl K.u_api_Key rfl K.sz_api_Key rfl (Views.own 0 rfl) hd1) rfl ?_
    clear hE a; intro a hE
    refine qvG hE (by first | exact .t rfl | exact .f rfl | exact .gt rfl | exact .gf rfl) (fun hg w hw => by (try simp only [↓gval_on hg, ↓gval_and hg] at hE); (have hg2 := hg; (try simp only [Bool.and_eq_true, Bool.or_eq_true, Bool.not_eq_true', decide_eq_true_eq, decide_eq_false_iff_not] at hg2)); first | exact r_move ⟨hE, hw⟩ rfl) rfl ?_
    clear hE a; intro a hE
    refine qvG hE (by first | exact .t rfl | exact .f rfl | exact .gt rfl | exact .gf rfl) (fun hg w hw => by (try simp only [↓gval_on hg, ↓gval_and hg] at hE); (have hg2 := hg; (try simp only [Bool.and_eq_true, Bool.or_eq_true, Bool.not_eq_true', decide_eq_true_eq, decide_eq_false_iff_not] at hg2)); first | exact r_nilCheck ⟨hE, hw⟩ rfl) rfl ?_
    clear hE a; intro a hE
    refine qvG hE (by first | exact .t rfl | exact .f rfl | exact .gt rfl | exact .gf rfl) (fun hg w hw => by (try simp only [↓gval_on hg, ↓gval_and hg] at hE); (have hg2 := hg; (try simp only [Bool.and_eq_true, Bool.or_eq_true, Bool.not_eq_true', decide_eq_true_eq, decide_eq_false_iff_not] at hg2)); first | exact r_fieldAddr0 ⟨hE, hw⟩ rfl K.u_interleafref18_Book rfl K.sz_S_interleafref18_Node rfl rfl | exact op_fieldC ⟨hE, hw⟩ 0 rfl K.u_interleafref18_Book rfl K.sz_S_interleafref18_Node rfl rfl (by assumption) rfl) rfl ?_
    clear hE a; intro a hE
    refine qvG hE (by first | exact .t rfl | exact .f rfl | exact .gt rfl | exact .gf rfl) (fun hg w hw => by (try simp only [↓gval_on hg, ↓gval_and hg] at hE); (have hg2 := hg; (try simp only [Bool.and_eq_true, Bool.or_eq_true, Bool.not_eq_true', decide_eq_true_eq, decide_eq_false_iff_not] at hg2)); first | exact r_ldN ⟨hE, hw⟩ rfl K.u_S_interleafref18_Node rfl 0 rfl rfl | exact r_ldN ⟨hE, hw⟩ rfl K.u_S_interleafref18_Node rfl 1 rfl rfl | exact r_ldN ⟨hE, hw⟩ rfl K.u_S_interleafref18_Node rfl 2 rfl rfl | exact r_ldN ⟨hE, hw⟩ rfl K.u_S_interleafref18_Node rfl 3 rfl rfl | exact r_ldN ⟨hE, hw⟩ rfl K.u_S_interleafref18_Node rfl 4 rfl rfl | exact r_ldN ⟨hE, hw⟩ rfl K.u_S_interleafref18_Node rfl 5 rfl rfl | exact r_ldN ⟨hE, hw⟩ rfl K.u_S_interleafref18_Node rfl 6 rfl rfl | exact r_ldC (o := 0) ⟨hE, hw⟩ rfl K.u_S_interleafref18_Node rfl 0 rfl | exact r_ldC (o := 0) ⟨hE, hw⟩ rfl K.u_S_interleafref18_Node rfl 1 rfl | exact r_ldC (o := 0) ⟨hE, hw⟩ rfl K.u_S_interleafref18_Node rfl 2 rfl | exact r_ldC (o := 0) ⟨hE, hw⟩ rfl K.u_S_interleafref18_Node rfl 3 rfl | exact r_ldC (o := 0) ⟨hE, hw⟩ rfl K.u_S_interleafref18_Node rfl 4 rfl | exact r_ldC (o := 0) ⟨hE, hw⟩ rfl K.u_S_interleafref18_Node rfl 5 rfl | exact r_ldC (o := 0) ⟨hE, hw⟩ rfl K.u_S_interleafref18_Node rfl 6 rfl | exact r_load ⟨hE, hw⟩ rfl K.u_S_interleafref18_Node rfl 0 rfl rfl | exact r_load ⟨hE, hw⟩ rfl K.u_S_interleafref18_Node rfl 1 rfl rfl | exact r_load ⟨hE, hw⟩ rfl K.u_S_interleafref18_Node rfl 2 rfl rfl | exact r_load ⟨hE, hw⟩ rfl K.u_S_interleafref18_Node rfl 3 rfl rfl | exact r_load ⟨hE, hw⟩ rfl K.u_S_interleafref18_Node rfl 4 rfl rfl | exact r_load ⟨hE, hw⟩ rfl K.u_S_interleafref18_Node rfl 5 rfl rfl | exact r_load1 ⟨hE, hw⟩ rfl K.u_S_interleafref18_Node rfl (by assumption)) rfl ?_
    clear hE a; intro a hE
    refine qvG hE (by first | exact .t rfl | exact .f rfl | exact .gt rfl | exact .gf rfl) (fun hg w hw => by (try simp only [↓gval_on hg, ↓gval_and hg] at hE); (have hg2 := hg; (try simp only [Bool.and_eq_true, Bool.or_eq_true, Bool.not_eq_true', decide_eq_true_eq, decide_eq_false_iff_not] at hg2)); first | exact r_elP ⟨hE, hw⟩ rfl rfl K.u_S_interleafref18_Node K.sz_interleafref18_Node (by first | exact Views.own 0 rfl | exact Views.own 1 rfl | exact Views.own 2 rfl | exact Views.own 3 rfl | exact Views.own 4 rfl | exact Views.own 5 rfl | assumption | exact Views.of_drop 1 (by assumption) | exact Views.of_drop 2 (by assumption) | exact Views.of_drop 3 (by assumption) | exact Views.of_drop 4 (by assumption) | exact Views.of_drop 5 (by assumption) | exact Views.of_drop 6 (by assumption) | exact Views.of_drop 7 (by assumption) | exact Views.of_drop 8 (by assumption) | exact Views.of_drop 9 (by assumption) | exact Views.of_drop 10 (by assumption) | exact Views.of_drop 11 (by assumption) | exact Views.of_drop 12 (by assumption)) (by first | omega | (simp; done)) (by first | omega | (simp only [List.length_cons, List.length_nil]; omega) | (simp; done) | (simp; omega))) rfl ?_
    clear hE a; intro a hE
    refine qvG hE (by first | exact .t rfl | exact .f rfl | exact .gt rfl | exact .gf rfl) (fun hg w hw => by (try simp only [↓gval_on hg, ↓gval_and hg] at hE); (have hg2 := hg; (try simp only [Bool.and_eq_true, Bool.or_eq_true, Bool.not_eq_true', decide_eq_true_eq, decide_eq_false_iff_not] at hg2)); first | exact r_elF ⟨hE, hw⟩ 0 rfl K.u_interleafref18_Node rfl K.sz_api_Key rfl rfl (by first | exact Views.own 0 rfl | exact Views.own 1 rfl | exact Views.own 2 rfl | exact Views.own 3 rfl | exact Views.own 4 rfl | exact Views.own 5 rfl | assumption | exact Views.of_drop 1 (by assumption) | exact Views.of_drop 2 (by assumption) | exact Views.of_drop 3 (by assumption) | exact Views.of_drop 4 (by assumption) | exact Views.of_drop 5 (by assumption) | exact Views.of_drop 6 (by assumption) | exact Views.of_drop 7 (by assumption) | exact Views.of_drop 8 (by assumption) | exact Views.of_drop 9 (by assumption) | exact Views.of_drop 10 (by assumption) | exact Views.of_drop 11 (by assumption) | exact Views.of_drop 12 (by assumption)) (by first | omega | (simp only [List.length_cons, List.length_nil]; omega) | (simp; done) | (simp; omega))) rfl ?_
    clear hE a; intro a hE
    refine qvG hE (by first | exact .t rfl | exact .f rfl | exact .gt rfl | exact .gf rfl) (fun hg w hw => by (try simp only [↓gval_on hg, ↓gval_and hg] at hE); exact r_elMa (cells := cellsN) (us := bs (rk 1).val) ⟨hE, hw⟩ rfl K.u_api_Key rfl K.sz_api_Key (Views.own 2 rfl) hx0 (by rw [← hk0k]; exact cellsN_key x0) (by rw [bs_length, (rk 1).len]) (by decide) rfl) rfl ?_
    clear hE a; intro a hE
    refine qvG hE (by first | exact .t rfl | exact .f rfl | exact .gt rfl | exact .gf rfl) (fun hg w hw => by (try simp only [↓gval_on hg, ↓gval_and hg] at hE); (have hg2 := hg; (try simp only [Bool.and_eq_true, Bool.or_eq_true, Bool.not_eq_true', decide_eq_true_eq, decide_eq_false_iff_not] at hg2)); first | exact r_arreq ⟨hE, hw⟩ rfl rfl K.u_api_Key K.u_uint8 K.sz_uint8 (by kernel_rfl) (by first | rfl | assumption | (simp; done) | (simp; omega) | omega) (by first | rfl | assumption | (simp; done) | (simp; omega) | omega)) rfl ?_
    clear hE a; intro a hE
    first
        | (refine qv hE (fun w hw => r_pickA ⟨hE, hw⟩ rfl rfl rfl) rfl ?_)
        | (refine qv hE (fun w hw => r_pickO ⟨hE, hw⟩ rfl rfl rfl) rfl ?_)
        | (refine qv hE (fun w hw => r_pick_true ⟨hE, hw⟩ rfl rfl) rfl ?_)
        | (refine qv hE (fun w hw => r_pick_false ⟨hE, hw⟩ rfl rfl) rfl ?_)
        | (refine qv hE (fun w hw => r_pick ⟨hE, hw⟩ rfl rfl rfl) rfl ?_)
    clear hE a; intro a hE
    refine qv hE (fun w hw => r_move ⟨hE, hw⟩ rfl) rfl ?_
    clear hE a; intro a hE
    refine qvG hE (by first | exact .t rfl | exact .f rfl | exact .gt rfl | exact .gf rfl) (fun hg w hw => by (try simp only [↓gval_on hg, ↓gval_and hg] at hE); (have hg2 := hg; (try simp only [Bool.and_eq_true, Bool.or_eq_true, Bool.not_eq_true', decide_eq_true_eq, decide_eq_false_iff_not] at hg2)); first | exact r_move ⟨hE, hw⟩ rfl) rfl ?_
    clear hE a; intro a hE
    refine qvG hE (by first | exact .t rfl | exact .f rfl | exact .gt rfl | exact .gf rfl) (fun hg w hw => by (try simp only [↓gval_on hg, ↓gval_and hg] at hE); (have hg2 := hg; (try simp only [Bool.and_eq_true, Bool.or_eq_true, Bool.not_eq_true', decide_eq_true_eq, decide_eq_false_iff_not] at hg2)); first | exact r_move ⟨hE, hw⟩ rfl) rfl ?_
    clear hE a; intro a hE
    refine qvG hE (by first | exact .t rfl | exact .f rfl | exact .gt rfl | exact .gf rfl) (fun hg w hw => by (try simp only [↓gval_on hg, ↓gval_and hg] at hE); (have hg2 := hg; (try simp only [Bool.and_eq_true, Bool.or_eq_true, Bool.not_eq_true', decide_eq_true_eq, decide_eq_false_iff_not] at hg2)); first | exact r_move ⟨hE, hw⟩ rfl) rfl ?_
    clear hE a; intro a hE
    refine qvG hE (by first | exact .t rfl | exact .f rfl | exact .gt rfl | exact .gf rfl) (fun hg w hw => by (try simp only [↓gval_on hg, ↓gval_and hg] at hE); (have hg2 := hg; (try simp only [Bool.and_eq_true, Bool.or_eq_true, Bool.not_eq_true', decide_eq_true_eq, decide_eq_false_iff_not] at hg2)); first | exact r_bin ⟨hE, hw⟩ rfl rfl (B.leq_int)) rfl ?_
    clear hE a; intro a hE
    refine qvG hE (by first | exact .t rfl | exact .f rfl | exact .gt rfl | exact .gf rfl) (fun hg w hw => by (try simp only [↓gval_on hg, ↓gval_and hg] at hE); (have hg2 := hg; (try simp only [Bool.and_eq_true, Bool.or_eq_true, Bool.not_eq_true', decide_eq_true_eq, decide_eq_false_iff_not] at hg2)); first | exact r_booleq ⟨hE, hw⟩ K.u_bool rfl rfl) rfl ?_
    clear hE a; intro a hE
    first
        | (refine qv hE (fun w hw => r_pickA ⟨hE, hw⟩ rfl rfl rfl) rfl ?_)
        | (refine qv hE (fun w hw => r_pickO ⟨hE, hw⟩ rfl rfl rfl) rfl ?_)
        | (refine qv hE (fun w hw => r_pick_true ⟨hE, hw⟩ rfl rfl) rfl ?_)
        | (refine qv hE (fun w hw => r_pick_false ⟨hE, hw⟩ rfl rfl) rfl ?_)
        | (refine qv hE (fun w hw => r_pick ⟨hE, hw⟩ rfl rfl rfl) rfl ?_)
    clear hE a; intro a hE
    refine qv hE (fun w hw => r_assign ⟨hE, hw⟩ rfl) rfl ?_
    clear hE a; intro a hE
    refine qnil hE ?_
    clear hE a; intro a w h
    refine c_then ?_
    refine c_ret ?_
    exact ret1 h rfl rfl ⟨(), by simp [hdl], h.2.drop 5, trivial⟩
end Go.Proofs.K
