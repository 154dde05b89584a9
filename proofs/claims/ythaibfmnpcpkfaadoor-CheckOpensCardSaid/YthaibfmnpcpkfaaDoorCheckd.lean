/- The law on opened sectors: its walk. -/
import Derived.Test.YthaibfmnpcpkfaaDoorCheckc
set_option linter.unusedVariables false
set_option linter.unusedSimpArgs false
set_option maxRecDepth 10000
namespace Go.Proofs.K
open Go.Sl

theorem oneCell_cells {v : Value} (h : v.oneCell' = true) : v.cells = #[v] := by cases v <;> simp_all [Value.oneCell', Value.cells]

theorem checkOpens (s w : World) (v : Value) (l : List UInt8) (at' turn : UInt8) (long : Bool) (F : List HItem) (hT : HasLines F) (hv : ViewsB F v l) (hs : Sat s w F) :
    Calls P n_law03_CheckOpens #[v, bv at', bv turn, .bool long] w (Ret s (fun _ : Unit => .bool true) (fun _ => F) (fun _ => True)) := by
  have hsl := sealN_len l
  refine enter K.fn_law03_CheckOpens rfl K.nt_law03_CheckOpens rfl hs ?_
  clear hs w; intro a w h
  refine c_seq (c_region ?_)
  refine wv h (r_assign h rfl) rfl ?_
  clear h a w; intro a w h
  refine wnil (c_then ?_)
  refine c_seq ?_
  refine c_seq (c_region ?_)
  refine wl rfl (op_call h rfl K.go_law03_awake (awake03 s _ _ hT h.2) rfl ?_)
  clear h a w; intro x a w hx h
  refine wv h (r_not h rfl) rfl ?_
  clear h a w; intro a w h
  refine wv h (r_move h rfl) rfl ?_
  clear h a w; intro a w h
  first
    | (refine wvg h (r_move h rfl) rfl rfl ?_)
    | (refine wvs h rfl rfl ?_)
  clear h a w; intro a w h
  refine wvg h (r_lenB h rfl K.u_S_uint8 hv) rfl rfl ?_
  clear h a w; intro a w h
  first
    | (refine wvg h (r_bin h rfl rfl (B.gtr_int)) rfl rfl ?_)
    | (refine wvs h rfl rfl ?_)
  clear h a w; intro a w h
  first
    | (refine wv h (r_pick_true h rfl rfl) rfl ?_)
    | (refine wv h (r_pick_false h rfl rfl) rfl ?_)
    | (refine wv h (r_pick h rfl rfl rfl) rfl ?_)
  clear h a w; intro a w h
  refine wnil (c_then ?_)
  refine c_condD h rfl (fun ht1 => ?_) (fun ht1 => ?_)
  ·
    refine c_seq (c_region ?_)
    refine wl rfl (op_call h rfl K.go_law03_awake (awake03 s _ _ hT h.2) rfl ?_)
    clear h a w; intro x a w hx h
    refine wv h (r_assign h rfl) rfl ?_
    clear h a w; intro a w h
    refine wnil (c_then ?_)
    refine c_ret ?_
    exact ret1 h rfl rfl ⟨(), rfl, h.2, trivial⟩
  ·
    have hl100 : l.length ≤ 100 := by omega
    refine c_skip ?_
    refine c_then ?_
    refine c_seq (c_region ?_)
    refine wv h (r_move h rfl) rfl ?_
    clear h a w; intro a w h
    refine wl rfl (op_call h rfl K.go_check_Seal (check_seal s _ _ _ _ hT hv h.2) rfl ?_)
    clear h a w; intro sv1 a w hx h
    refine wv h (r_assign h rfl) rfl ?_
    clear h a w; intro a w h
    refine wnil (c_then ?_)
    refine c_seq ?_
    refine c_seq (c_region ?_)
    refine wv h (r_move h rfl) rfl ?_
    clear h a w; intro a w h
    refine wv h (r_lenB h rfl K.u_S_uint8 (ViewsB.own 0 rfl)) rfl ?_
    clear h a w; intro a w h
    refine wv h (r_bin h rfl rfl (B.neq_int)) rfl ?_
    clear h a w; intro a w h
    have e1 : decide (((sealN l).length : Int) ≠ 64) = false := decide_eq_false (by omega)
    rw [e1] at h
    refine wnil (c_then ?_)
    refine c_false h rfl ?_
    refine c_skip ?_
    refine c_then ?_
    refine c_seq (c_region ?_)
    refine wv h (r_move h rfl) rfl ?_
    clear h a w; intro a w h
    refine wv h (r_move h rfl) rfl ?_
    clear h a w; intro a w h
    refine wv h (r_bin h rfl rfl (B.rem_u8 (y := 64) (by decide))) rfl ?_
    clear h a w; intro a w h
    obtain ⟨j, hj, hjl⟩ : ∃ j : Nat, (at' % 64).toNat = j ∧ j < 64 := ⟨_, rfl, by rw [UInt8.toNat_mod]; exact Nat.mod_lt _ (by decide)⟩
    obtain ⟨u, hu⟩ : ∃ u, (sealN l)[j]? = some u := ⟨(sealN l)[j]'(by omega), by simp⟩
    obtain ⟨g, o, cap, hg, hc⟩ := ViewsB.cell (ViewsB.own 0 rfl) h.2 hu
    refine wv h (r_idx h rfl rfl K.u_S_uint8 K.sz_uint8 hg j (by rw [hj]) (by omega)) rfl ?_
    clear h a w; intro a w h
    refine wv h (r_loadC h rfl K.u_uint8 rfl hc 0 (.inl ⟨rfl, rfl⟩) rfl) rfl ?_
    clear h a w; intro a w h
    refine wv h (r_move h rfl) rfl ?_
    clear h a w; intro a w h
    refine wv h (r_bin h rfl rfl (B.xor_u8)) rfl ?_
    clear h a w; intro a w h
    refine wv h (r_idx h rfl rfl K.u_S_uint8 K.sz_uint8 hg j (by rw [hj]) (by omega)) rfl ?_
    clear h a w; intro a w h
    refine wl rfl (op_storeb h rfl rfl K.sz_uint8 0 rfl hg j (by omega) (by omega) ?_)
    clear h a w; intro a w h
    refine wnil (c_then ?_)
    refine c_meet h (X := Value × List UInt8) (fun z => [(0, v), (9, z.1)]) (fun z => OwnB z.1 z.2 :: F) (fun z => z.2.length ≤ 100) ?_ ?_
    ·
      refine c_seq (c_region ?_)
      refine wv h (r_move h rfl) rfl ?_
      clear h a w; intro a w h
      refine wnil (c_then ?_)
      rcases (show long = true ∨ long = false by cases long <;> simp) with hlong | hlong
      ·
        rw [hlong] at h
        refine c_true h rfl ?_
        refine c_region ?_
        refine wv h (r_move h rfl) rfl ?_
        clear h a w; intro a w h
        refine wl rfl (op_buildSlice h K.u_S_uint8 K.sz_uint8 K.z_uint8 rfl rfl rfl rfl rfl (by simp [Value.cells, bv, w32, w64, sv]) rfl ?_)
        clear h a w; intro b1 a w h
        refine wl rfl (op_appendb (u := 0) h rfl rfl K.u_S_uint8 K.sz_uint8 K.z_uint8 rfl rfl 0 rfl (by rw [List.length_set]; omega) rfl ?_)
        clear h a w; intro sv2 a w h
        refine wv h (r_assign h rfl) rfl ?_
        clear h a w; intro a w h
        refine wnil ?_
        exact ⟨(sv2, _), h.keep [0, 9], by simp; omega⟩
      ·
        rw [hlong] at h
        refine c_false h rfl ?_
        refine c_skip ?_
        exact ⟨(sv1, _), h.keep [0, 9], by simp; omega⟩
    ·
      clear h a w; intro z a w hz h
      obtain ⟨sv3, sl3⟩ := z
      simp only at h hz
      refine c_seq ?_
      refine c_seq (c_region ?_)
      refine wv h (r_move h rfl) rfl ?_
      clear h a w; intro a w h
      refine wv h (r_move h rfl) rfl ?_
      clear h a w; intro a w h
      have hc1 : sv3.cells = #[sv3] := oneCell_cells (Views.oneCell (ViewsB.own 0 rfl) h.2)
      have hc2 : v.cells = #[v] := oneCell_cells (Views.oneCell (hv.cons _) h.2)
      refine wl rfl (op_buildSlice (cells := [sv3, v]) h K.u_S_S_uint8 K.sz_S_uint8 K.z_S_uint8 rfl rfl rfl rfl (by simp [hc1, hc2]) (by simp [hc1, hc2]) rfl ?_)
      clear h a w; intro b42 a w h
      refine wv h (r_lenV h rfl K.u_S_S_uint8 (Views.blk (size := 1) (xs := [sv3, v]) 0 rfl rfl rfl rfl rfl)) rfl ?_
      clear h a w; intro a w h
      refine wv h (r_move h rfl) rfl ?_
      clear h a w; intro a w h
      refine wnil (c_then ?_)
      refine c_block ?_
      refine c_loop (X := Nat) (fun j => [(0, v), (42, .slice (some ⟨b42, 0, none⟩) 2 2), (43, .int .i64 2), (44, .int .i64 (j : Int))])
        (fun j => Blk b42 (.cells #[sv3, v] t_S_uint8) :: OwnB sv3 sl3 :: F) (fun j => j ≤ 2) (fun j => 2 - j) 0 (h.keep [0, 42, 43, 44]) (by simp) ?_
      clear h a w; intro j a w hx h
      refine c_seq (c_region ?_)
      refine wv h (r_bin h rfl rfl (B.lss_int)) rfl ?_
      clear h a w; intro a w h
      refine wnil (c_then ?_)
      refine c_seq ?_
      refine c_condD h rfl (fun ht4 => ?_) (fun ht4 => ?_)
      ·
        obtain ⟨xv, xl, hget, hxv, hxl⟩ : ∃ xv xl, #[sv3, v][0 + j * 1]? = some xv ∧ ViewsB (Blk b42 (.cells #[sv3, v] t_S_uint8) :: OwnB sv3 sl3 :: F) xv xl ∧ xl.length ≤ 100 := by
          have : j = 0 ∨ j = 1 := by omega
          rcases this with rfl | rfl
          · exact ⟨sv3, sl3, rfl, ViewsB.own 1 rfl, hz⟩
          · exact ⟨v, l, rfl, (hv.cons _).cons _, hl100⟩
        have hT2 : HasLines (Blk b42 (.cells #[sv3, v] t_S_uint8) :: OwnB sv3 sl3 :: F) := CellsAt.cons (CellsAt.cons hT _) _
        generalize hG : (Blk b42 (.cells #[sv3, v] t_S_uint8) :: OwnB sv3 sl3 :: F) = G at hxv hT2
        refine c_skip ?_
        refine c_then ?_
        refine c_seq ?_
        refine c_block ?_
        refine c_seq (c_region ?_)
        refine wv h (r_idx h rfl rfl K.u_S_S_uint8 K.sz_S_uint8 rfl j rfl (by omega)) rfl ?_
        clear h a w; intro a w h
        refine wv h (r_load h rfl K.u_S_uint8 rfl 0 rfl hget) rfl ?_
        clear h a w; intro a w h
        rw [hG] at h
        refine wv h (r_assign h rfl) rfl ?_
        clear h a w; intro a w h
        refine wnil (c_then ?_)
        refine c_seq (c_region ?_)
        refine wv h (r_move h rfl) rfl ?_
        clear h a w; intro a w h
        refine wl rfl (op_call h rfl K.go_check_Open (check_open s _ xv xl _ hT2 hxv h.2) rfl ?_)
        clear h a w; intro q a w hx2 h
        refine wv h (r_move h rfl) rfl ?_
        clear h a w; intro a w h
        refine wv h (r_extract h rfl rfl) rfl ?_
        clear h a w; intro a w h
        refine wv h (r_extract h rfl rfl) rfl ?_
        clear h a w; intro a w h
        refine wv h (r_assign h rfl) rfl ?_
        clear h a w; intro a w h
        refine wv h (r_assign h rfl) rfl ?_
        clear h a w; intro a w h
        refine wnil (c_then ?_)
        refine c_meet h (X := Unit) (fun _ => [(0, v), (42, .slice (some ⟨b42, 0, none⟩) 2 2), (43, .int .i64 2), (44, .int .i64 (j : Int)), (11, xv), (12, q), (13, .bool (openN xl)), (14, .bool (openN xl))])
          (fun _ => OwnB q (if openN xl then xl.take 60 else []) :: G) (fun _ => True) ?_ ?_
        ·
          have hcs : (∃ r : Bool, decide ((xl.length : Int) = 64) = true ∧ (xl.length = 64) ∧ decide (sealN (xl.take 60) = xl) = openN xl) ∨ (decide ((xl.length : Int) = 64) = false ∧ openN xl = false) := by
            by_cases h64 : xl.length = 64
            · left; exact ⟨true, decide_eq_true (by omega), h64, by unfold openN; simp [h64]⟩
            · right; exact ⟨decide_eq_false (by omega), by unfold openN; exact decide_eq_false (fun hh => h64 hh.1)⟩
          rcases hcs with ⟨_, hq, h64, ho⟩ | ⟨hq, ho⟩
          all_goals
            refine c_held (G) 16 K.mixed rfl h ?_
            clear h a w; intro a w h
            refine h_take h 0 rfl (by kernel_rfl) (by kernel_rfl) (by kernel_rfl) (fun _ _ _ hh => hh) (by first | exact h.2 | exact h.2.drop 1 | exact h.2.drop 2 | exact h.2.drop 3 | exact h.2.drop 4 | exact h.2.drop 5 | exact h.2.drop 6) (fun w hw => r_move ⟨h.1, hw⟩ rfl) rfl ?_
            clear h a w; intro a w h
            refine h_take h 1 rfl (by kernel_rfl) (by kernel_rfl) (by kernel_rfl) (fun _ _ _ hh => hh) (by first | exact h.2 | exact h.2.drop 1 | exact h.2.drop 2 | exact h.2.drop 3 | exact h.2.drop 4 | exact h.2.drop 5 | exact h.2.drop 6) (fun w hw => r_lenB ⟨h.1, hw⟩ rfl K.u_S_uint8 hxv) rfl ?_
            clear h a w; intro a w h
            refine h_take h 2 rfl (by kernel_rfl) (by kernel_rfl) (by kernel_rfl) (fun _ _ _ hh => hh) (by first | exact h.2 | exact h.2.drop 1 | exact h.2.drop 2 | exact h.2.drop 3 | exact h.2.drop 4 | exact h.2.drop 5 | exact h.2.drop 6) (fun w hw => r_bin ⟨h.1, hw⟩ rfl rfl (B.eql_int)) rfl ?_
            clear h a w; intro a w h
            rw [hq] at h
            refine h_take h 3 rfl (by kernel_rfl) (by kernel_rfl) (by kernel_rfl) (fun _ _ _ hh => hh) (by first | exact h.2 | exact h.2.drop 1 | exact h.2.drop 2 | exact h.2.drop 3 | exact h.2.drop 4 | exact h.2.drop 5 | exact h.2.drop 6) (fun w hw => r_move ⟨h.1, hw⟩ rfl) rfl ?_
            clear h a w; intro a w h
            first
              | (refine h_takeg h 4 rfl (by kernel_rfl) (by kernel_rfl) (by kernel_rfl) (fun _ _ _ hh => hh) (by first | exact h.2 | exact h.2.drop 1 | exact h.2.drop 2 | exact h.2.drop 3 | exact h.2.drop 4 | exact h.2.drop 5 | exact h.2.drop 6) (fun w hw => r_move ⟨h.1, hw⟩ rfl) rfl rfl ?_)
              | (refine h_takes h 4 rfl (by kernel_rfl) (by kernel_rfl) (by kernel_rfl) (fun _ _ _ hh => hh) (by first | exact h.2 | exact h.2.drop 1 | exact h.2.drop 2 | exact h.2.drop 3 | exact h.2.drop 4 | exact h.2.drop 5 | exact h.2.drop 6) rfl rfl ?_)
            clear h a w; intro a w h
            first
              | (refine h_takeg h 5 rfl (by kernel_rfl) (by kernel_rfl) (by kernel_rfl) (fun _ _ _ hh => hh) (by first | exact h.2 | exact h.2.drop 1 | exact h.2.drop 2 | exact h.2.drop 3 | exact h.2.drop 4 | exact h.2.drop 5 | exact h.2.drop 6) (fun w hw => r_move ⟨h.1, hw⟩ rfl) rfl rfl ?_)
              | (refine h_takes h 5 rfl (by kernel_rfl) (by kernel_rfl) (by kernel_rfl) (fun _ _ _ hh => hh) (by first | exact h.2 | exact h.2.drop 1 | exact h.2.drop 2 | exact h.2.drop 3 | exact h.2.drop 4 | exact h.2.drop 5 | exact h.2.drop 6) rfl rfl ?_)
            clear h a w; intro a w h
            first
              | (refine h_takeg h 6 rfl (by kernel_rfl) (by kernel_rfl) (by kernel_rfl) (fun _ _ _ hh => hh) (by first | exact h.2 | exact h.2.drop 1 | exact h.2.drop 2 | exact h.2.drop 3 | exact h.2.drop 4 | exact h.2.drop 5 | exact h.2.drop 6) (fun w hw => r_lenB ⟨h.1, hw⟩ rfl K.u_S_uint8 hxv) rfl rfl ?_)
              | (refine h_takes h 6 rfl (by kernel_rfl) (by kernel_rfl) (by kernel_rfl) (fun _ _ _ hh => hh) (by first | exact h.2 | exact h.2.drop 1 | exact h.2.drop 2 | exact h.2.drop 3 | exact h.2.drop 4 | exact h.2.drop 5 | exact h.2.drop 6) rfl rfl ?_)
            clear h a w; intro a w h
            first
              | (refine h_takeg h 7 rfl (by kernel_rfl) (by kernel_rfl) (by kernel_rfl) (fun _ _ _ hh => hh) (by first | exact h.2 | exact h.2.drop 1 | exact h.2.drop 2 | exact h.2.drop 3 | exact h.2.drop 4 | exact h.2.drop 5 | exact h.2.drop 6) (fun w hw => r_min2 ⟨h.1, hw⟩ rfl rfl) rfl rfl ?_)
              | (refine h_takes h 7 rfl (by kernel_rfl) (by kernel_rfl) (by kernel_rfl) (fun _ _ _ hh => hh) (by first | exact h.2 | exact h.2.drop 1 | exact h.2.drop 2 | exact h.2.drop 3 | exact h.2.drop 4 | exact h.2.drop 5 | exact h.2.drop 6) rfl rfl ?_)
            clear h a w; intro a w h
            try rw [show min (60 : Int) (xl.length : Int) = 60 by omega] at h
            first
              | (refine h_takeg h 8 rfl (by kernel_rfl) (by kernel_rfl) (by kernel_rfl) (fun _ _ _ hh => hh) (by first | exact h.2 | exact h.2.drop 1 | exact h.2.drop 2 | exact h.2.drop 3 | exact h.2.drop 4 | exact h.2.drop 5 | exact h.2.drop 6) (fun w hw => r_sliceB ⟨h.1, hw⟩ rfl K.u_S_uint8 K.sz_uint8 hxv 0 60 rfl ⟨_, rfl⟩ (by omega) (by omega)) rfl rfl ?_)
              | (refine h_takes h 8 rfl (by kernel_rfl) (by kernel_rfl) (by kernel_rfl) (fun _ _ _ hh => hh) (by first | exact h.2 | exact h.2.drop 1 | exact h.2.drop 2 | exact h.2.drop 3 | exact h.2.drop 4 | exact h.2.drop 5 | exact h.2.drop 6) rfl rfl ?_)
            clear h a w; intro a w h
            first
              | (refine h_takeg h 11 rfl (by kernel_rfl) (by kernel_rfl) (by kernel_rfl) (fun _ _ _ hh => hh) (by first | exact h.2 | exact h.2.drop 1 | exact h.2.drop 2 | exact h.2.drop 3 | exact h.2.drop 4 | exact h.2.drop 5 | exact h.2.drop 6) (fun w hw => r_move ⟨h.1, hw⟩ rfl) rfl rfl ?_)
              | (refine h_takes h 11 rfl (by kernel_rfl) (by kernel_rfl) (by kernel_rfl) (fun _ _ _ hh => hh) (by first | exact h.2 | exact h.2.drop 1 | exact h.2.drop 2 | exact h.2.drop 3 | exact h.2.drop 4 | exact h.2.drop 5 | exact h.2.drop 6) rfl rfl ?_)
            clear h a w; intro a w h
            first
              | (refine h_takeg h 12 rfl (by kernel_rfl) (by kernel_rfl) (by kernel_rfl) (fun _ _ _ hh => hh) (by first | exact h.2 | exact h.2.drop 1 | exact h.2.drop 2 | exact h.2.drop 3 | exact h.2.drop 4 | exact h.2.drop 5 | exact h.2.drop 6) (fun w hw => r_b2sb ⟨h.1, hw⟩ rfl K.u_S_uint8 K.u_uint8 K.u_string hxv) rfl rfl ?_)
              | (refine h_takes h 12 rfl (by kernel_rfl) (by kernel_rfl) (by kernel_rfl) (fun _ _ _ hh => hh) (by first | exact h.2 | exact h.2.drop 1 | exact h.2.drop 2 | exact h.2.drop 3 | exact h.2.drop 4 | exact h.2.drop 5 | exact h.2.drop 6) rfl rfl ?_)
            clear h a w; intro a w h
            have hvv : xl.length = 64 → ViewsB (OwnB q (if openN xl then xl.take 60 else []) :: G) (subV 1 xv 0 60) (xl.take 60) := fun h64 => by
              have := ViewsB.sub (hxv.cons (OwnB q (if openN xl then xl.take 60 else []))) (i := 0) (j := 60) (by omega) (by omega)
              simpa using this
            first
              | (refine h_takes h 9 rfl (by kernel_rfl) (by kernel_rfl) (by kernel_rfl) (fun _ _ _ hh => hh) (by first | exact h.2 | exact h.2.drop 1 | exact h.2.drop 2 | exact h.2.drop 3 | exact h.2.drop 4 | exact h.2.drop 5 | exact h.2.drop 6) rfl rfl ?_; clear h a w; intro a w h)
              | (
                refine h_onlyg h 9 rfl rfl rfl (by kernel_rfl) ?_
                refine op_call h rfl K.go_ref01_Seal (ref_seal s _ _ (xl.take 60) _ (hvv h64) h.2) rfl ?_
                clear h a w; intro wv1 a w hx3 h
                refine ⟨(by first | exact h.2 | exact h.2.drop 1 | exact h.2.drop 2 | exact h.2.drop 3 | exact h.2.drop 4 | exact h.2.drop 5 | exact h.2.drop 6), ?_⟩)
            first
              | (refine h_takes h 10 rfl (by kernel_rfl) (by kernel_rfl) (by kernel_rfl) (fun _ _ _ hh => hh) (by first | exact h.2 | exact h.2.drop 1 | exact h.2.drop 2 | exact h.2.drop 3 | exact h.2.drop 4 | exact h.2.drop 5 | exact h.2.drop 6) rfl rfl ?_; clear h a w; intro a w h)
              | (
                refine h_onlyg h 10 rfl rfl rfl (by kernel_rfl) ?_
                refine op_run h (r_b2sb h rfl K.u_S_uint8 K.u_uint8 K.u_string (ViewsB.own 0 rfl)) rfl h.2 ?_
                clear h a w; intro a w h
                refine ⟨(by first | exact h.2 | exact h.2.drop 1 | exact h.2.drop 2 | exact h.2.drop 3 | exact h.2.drop 4 | exact h.2.drop 5 | exact h.2.drop 6), ?_⟩)
            first
              | (refine h_takeg h 13 rfl (by kernel_rfl) (by kernel_rfl) (by kernel_rfl) (fun _ _ _ hh => hh) (by first | exact h.2 | exact h.2.drop 1 | exact h.2.drop 2 | exact h.2.drop 3 | exact h.2.drop 4 | exact h.2.drop 5 | exact h.2.drop 6) (fun w hw => r_streq (l := sealN (xl.take 60)) (m := xl) ⟨h.1, hw⟩ rfl rfl) rfl rfl ?_)
              | (refine h_takes h 13 rfl (by kernel_rfl) (by kernel_rfl) (by kernel_rfl) (fun _ _ _ hh => hh) (by first | exact h.2 | exact h.2.drop 1 | exact h.2.drop 2 | exact h.2.drop 3 | exact h.2.drop 4 | exact h.2.drop 5 | exact h.2.drop 6) rfl rfl ?_)
            clear h a w; intro a w h
            first
              | (refine h_take h 14 rfl (by kernel_rfl) (by kernel_rfl) (by kernel_rfl) (fun _ _ _ hh => hh) (by first | exact h.2 | exact h.2.drop 1 | exact h.2.drop 2 | exact h.2.drop 3 | exact h.2.drop 4 | exact h.2.drop 5 | exact h.2.drop 6) (fun w hw => r_pick_true ⟨h.1, hw⟩ rfl rfl) rfl ?_)
              | (refine h_take h 14 rfl (by kernel_rfl) (by kernel_rfl) (by kernel_rfl) (fun _ _ _ hh => hh) (by first | exact h.2 | exact h.2.drop 1 | exact h.2.drop 2 | exact h.2.drop 3 | exact h.2.drop 4 | exact h.2.drop 5 | exact h.2.drop 6) (fun w hw => r_pick_false ⟨h.1, hw⟩ rfl rfl) rfl ?_)
              | (refine h_take h 14 rfl (by kernel_rfl) (by kernel_rfl) (by kernel_rfl) (fun _ _ _ hh => hh) (by first | exact h.2 | exact h.2.drop 1 | exact h.2.drop 2 | exact h.2.drop 3 | exact h.2.drop 4 | exact h.2.drop 5 | exact h.2.drop 6) (fun w hw => r_pick ⟨h.1, hw⟩ rfl rfl rfl) rfl ?_)
            clear h a w; intro a w h
            refine h_take h 15 rfl (by kernel_rfl) (by kernel_rfl) (by kernel_rfl) (fun _ _ _ hh => hh) (by first | exact h.2 | exact h.2.drop 1 | exact h.2.drop 2 | exact h.2.drop 3 | exact h.2.drop 4 | exact h.2.drop 5 | exact h.2.drop 6) (fun w hw => r_assign ⟨h.1, hw⟩ rfl) rfl ?_
            clear h a w; intro a w h
            refine h_done (by kernel_rfl) ?_
            refine c_then ?_
            first
              | (rw [ho] at h; exact ⟨(), (h.drop 1).keep [0, 42, 43, 44, 11, 12, 13, 14], trivial⟩)
              | (rw [ho] at h ⊢; exact ⟨(), h.keep [0, 42, 43, 44, 11, 12, 13, 14], trivial⟩)
        ·
          clear h a w; intro z a w hz h
          refine c_meet h (X := Unit) (fun _ => [(0, v), (42, .slice (some ⟨b42, 0, none⟩) 2 2), (43, .int .i64 2), (44, .int .i64 (j : Int)), (90, .bool false)])
            (fun _ => G) (fun _ => True) ?_ ?_
          ·
            have e77 : decide ((([] : List UInt8).length : Int) ≠ 0) = false := by decide
            have hcs : (openN xl = true ∧ xl.length = 64) ∨ (openN xl = false ∧ True) := by
              cases ho : openN xl
              · right; exact ⟨rfl, trivial⟩
              · left; unfold openN at ho; exact ⟨rfl, (of_decide_eq_true ho).1⟩
            rcases hcs with ⟨ho, h64⟩ | ⟨ho, h64⟩
            all_goals rw [ho] at h
            all_goals simp only [if_true, Bool.false_eq_true, if_false] at h
            all_goals
              refine c_draw K.mixed (by kernel_rfl) h ?_
              clear h a w; intro a hE
              refine qv hE (fun w hw => r_move ⟨hE, hw⟩ rfl) rfl ?_
              clear hE a; intro a hE
              refine qv hE (fun w hw => r_move ⟨hE, hw⟩ rfl) rfl ?_
              clear hE a; intro a hE
              refine qv hE (fun w hw => r_boolne ⟨hE, hw⟩ K.u_bool rfl rfl) rfl ?_
              clear hE a; intro a hE
              refine qv hE (fun w hw => r_move ⟨hE, hw⟩ rfl) rfl ?_
              clear hE a; intro a hE
              first
                | (refine qvg hE (fun w hw => r_move ⟨hE, hw⟩ rfl) rfl rfl ?_)
                | (refine qvs hE rfl rfl ?_)
              clear hE a; intro a hE
              first
                | (refine qvg hE (fun w hw => r_not ⟨hE, hw⟩ rfl) rfl rfl ?_)
                | (refine qvs hE rfl rfl ?_)
              clear hE a; intro a hE
              first
                | (refine qvg hE (fun w hw => r_move ⟨hE, hw⟩ rfl) rfl rfl ?_)
                | (refine qvs hE rfl rfl ?_)
              clear hE a; intro a hE
              first
                | (refine qvg hE (fun w hw => r_move ⟨hE, hw⟩ rfl) rfl rfl ?_)
                | (refine qvs hE rfl rfl ?_)
              clear hE a; intro a hE
              first
                | (refine qvg hE (fun w hw => r_lenB ⟨hE, hw⟩ rfl K.u_S_uint8 (ViewsB.own 0 rfl)) rfl rfl ?_)
                | (refine qvs hE rfl rfl ?_)
              clear hE a; intro a hE
              first
                | (refine qvg hE (fun w hw => r_bin ⟨hE, hw⟩ rfl rfl (B.neq_int)) rfl rfl ?_)
                | (refine qvs hE rfl rfl ?_)
              clear hE a; intro a hE
              try rw [e77] at hE
              first
                | (refine qvg hE (fun w hw => r_pick_true ⟨hE, hw⟩ rfl rfl) rfl rfl ?_)
                | (refine qvg hE (fun w hw => r_pick_false ⟨hE, hw⟩ rfl rfl) rfl rfl ?_)
                | (refine qvg hE (fun w hw => r_pick ⟨hE, hw⟩ rfl rfl rfl) rfl rfl ?_)
                | (refine qvs hE rfl rfl ?_)
              clear hE a; intro a hE
              first
                | (refine qv hE (fun w hw => r_pick_true ⟨hE, hw⟩ rfl rfl) rfl ?_)
                | (refine qv hE (fun w hw => r_pick_false ⟨hE, hw⟩ rfl rfl) rfl ?_)
                | (refine qv hE (fun w hw => r_pick ⟨hE, hw⟩ rfl rfl rfl) rfl ?_)
              clear hE a; intro a hE
              refine qv hE (fun w hw => r_move ⟨hE, hw⟩ rfl) rfl ?_
              clear hE a; intro a hE
              first
                | (refine qvg hE (fun w hw => r_move ⟨hE, hw⟩ rfl) rfl rfl ?_)
                | (refine qvs hE rfl rfl ?_)
              clear hE a; intro a hE
              first
                | (refine qvg hE (fun w hw => r_move ⟨hE, hw⟩ rfl) rfl rfl ?_)
                | (refine qvs hE rfl rfl ?_)
              clear hE a; intro a hE
              first
                | (refine qvg hE (fun w hw => r_move ⟨hE, hw⟩ rfl) rfl rfl ?_)
                | (refine qvs hE rfl rfl ?_)
              clear hE a; intro a hE
              first
                | (refine qvg hE (fun w hw => r_b2sb ⟨hE, hw⟩ rfl K.u_S_uint8 K.u_uint8 K.u_string (ViewsB.own 0 rfl)) rfl rfl ?_)
                | (refine qvs hE rfl rfl ?_)
              clear hE a; intro a hE
              first
                | (refine qvg hE (fun w hw => r_move ⟨hE, hw⟩ rfl) rfl rfl ?_)
                | (refine qvs hE rfl rfl ?_)
              clear hE a; intro a hE
              first
                | (refine qvg hE (fun w hw => r_sliceB ⟨hE, hw⟩ rfl K.u_S_uint8 K.sz_uint8 (hxv.cons _) 0 60 rfl ⟨_, rfl⟩ (by omega) (by omega)) rfl rfl ?_)
                | (refine qvs hE rfl rfl ?_)
              clear hE a; intro a hE
              first
                | (refine qvg hE (fun w hw => r_b2sb (l := xl.take 60) ⟨hE, hw⟩ rfl K.u_S_uint8 K.u_uint8 K.u_string (by have := ViewsB.sub (hxv.cons (OwnB q (xl.take 60))) (i := 0) (j := 60) (by omega) (by omega); simpa using this)) rfl rfl ?_)
                | (refine qvs hE rfl rfl ?_)
              clear hE a; intro a hE
              first
                | (refine qvg hE (fun w hw => r_strne (l := xl.take 60) (m := xl.take 60) ⟨hE, hw⟩ rfl rfl) rfl rfl ?_)
                | (refine qvs hE rfl rfl ?_)
              clear hE a; intro a hE
              try rw [show decide (xl.take 60 ≠ xl.take 60) = false by simp] at hE
              first
                | (refine qvg hE (fun w hw => r_pick_true ⟨hE, hw⟩ rfl rfl) rfl rfl ?_)
                | (refine qvg hE (fun w hw => r_pick_false ⟨hE, hw⟩ rfl rfl) rfl rfl ?_)
                | (refine qvg hE (fun w hw => r_pick ⟨hE, hw⟩ rfl rfl rfl) rfl rfl ?_)
                | (refine qvs hE rfl rfl ?_)
              clear hE a; intro a hE
              first
                | (refine qv hE (fun w hw => r_pick_true ⟨hE, hw⟩ rfl rfl) rfl ?_)
                | (refine qv hE (fun w hw => r_pick_false ⟨hE, hw⟩ rfl rfl) rfl ?_)
                | (refine qv hE (fun w hw => r_pick ⟨hE, hw⟩ rfl rfl rfl) rfl ?_)
              clear hE a; intro a hE
              refine qnil hE ?_
              clear hE a; intro a w h
              refine c_then ?_
              exact ⟨(), (h.drop 1).keep [0, 42, 43, 44, 90], trivial⟩
          ·
            clear h a w; intro z a w hz h
            refine c_false h rfl ?_
            refine c_skip ?_
            refine b_normal ?_
            refine c_then ?_
            refine c_region ?_
            refine wv h (r_bin h rfl rfl (B.add_i64 (by omega) (by omega))) rfl ?_
            clear h a w; intro a w h
            refine wv h (r_move h rfl) rfl ?_
            clear h a w; intro a w h
            refine wnil ?_
            refine ⟨j + 1, ?_, ?_, ?_⟩
            · exact h.keep [0, 42, 43, 44]
            · show j + 1 ≤ 2; omega
            · show 2 - (j + 1) < 2 - j; omega
      ·
        refine c_exit ?_
        refine e_then ?_
        refine e_then ?_
        refine e_here ?_
        refine c_then ?_
        refine c_seq (c_region ?_)
        refine wv h (r_assign h rfl) rfl ?_
        clear h a w; intro a w h
        refine wnil (c_then ?_)
        refine c_ret ?_
        exact ret1 h rfl rfl ⟨(), rfl, h.2.drop 2, trivial⟩
end Go.Proofs.K
