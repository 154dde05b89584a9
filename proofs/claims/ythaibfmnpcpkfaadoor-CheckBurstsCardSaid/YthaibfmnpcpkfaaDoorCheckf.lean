/- The law on bursts: its walk. -/
import Derived.Test.YthaibfmnpcpkfaaDoorCheckc
import Derived.Test.YthaibfmnpcpkfaaDoorCheckPurec
set_option linter.unusedVariables false
set_option linter.unusedSimpArgs false
set_option maxRecDepth 10000
namespace Go.Proofs.K
open Go.Sl

def anyBit (pat i : Nat) : Bool := (List.range i).any fun j => pat.testBit j
theorem anyBit_succ (pat i : Nat) : anyBit pat (i + 1) = (anyBit pat i || pat.testBit i) := by simp [anyBit, List.range_succ]
theorem anyBit_false (pat i : Nat) : (!anyBit pat i) = true ↔ ∀ j < i, pat.testBit j = false := by
  simp [anyBit]

theorem checkBursts (s w : World) (v : Value) (l : List UInt8) (at' : UInt16) (pat : UInt32) (F : List HItem) (hT : HasLines F) (hv : ViewsB F v l) (hs : Sat s w F) :
    Calls P n_law03_CheckBursts #[v, w16 at', w32 pat] w (Ret s (fun _ : Unit => .bool true) (fun _ => F) (fun _ => True)) := by
  have hsl := sealN_len l
  have hso := openN_seal l
  obtain ⟨k, hk, hk512⟩ : ∃ k : Nat, ((at'.toNat : Int) % 512) = (k : Int) ∧ k < 512 := ⟨at'.toNat % 512, by omega, by omega⟩
  refine enter K.fn_law03_CheckBursts rfl K.nt_law03_CheckBursts rfl hs ?_
  clear hs w; intro a w h
  refine c_seq (c_region ?_)
  refine wv h (r_assign h rfl) rfl ?_
  clear h a w; intro a w h
  refine wnil (c_then ?_)
  refine c_seq ?_
  refine c_seq (c_region ?_)
  refine wl rfl (op_call h rfl K.go_law03_awake (awake03 s _ _ hT h.2) rfl ?_)
  clear h a w; intro x a w hx h
  refine wv h (r_not h rfl) rfl ?_
  clear h a w; intro a w h
  refine wv h (r_move h rfl) rfl ?_
  clear h a w; intro a w h
  first
    | (refine wvg h (r_move h rfl) rfl rfl ?_)
    | (refine wvs h rfl rfl ?_)
  clear h a w; intro a w h
  refine wvg h (r_lenB h rfl K.u_S_uint8 hv) rfl rfl ?_
  clear h a w; intro a w h
  first
    | (refine wvg h (r_bin h rfl rfl (B.gtr_int)) rfl rfl ?_)
    | (refine wvs h rfl rfl ?_)
  clear h a w; intro a w h
  first
    | (refine wv h (r_pick_true h rfl rfl) rfl ?_)
    | (refine wv h (r_pick_false h rfl rfl) rfl ?_)
    | (refine wv h (r_pick h rfl rfl rfl) rfl ?_)
  clear h a w; intro a w h
  refine wnil (c_then ?_)
  refine c_condD h rfl (fun ht1 => ?_) (fun ht1 => ?_)
  ·
    refine c_seq (c_region ?_)
    refine wl rfl (op_call h rfl K.go_law03_awake (awake03 s _ _ hT h.2) rfl ?_)
    clear h a w; intro x a w hx h
    refine wv h (r_assign h rfl) rfl ?_
    clear h a w; intro a w h
    refine wnil (c_then ?_)
    refine c_ret ?_
    exact ret1 h rfl rfl ⟨(), rfl, h.2, trivial⟩
  ·
    refine c_skip ?_
    refine c_then ?_
    refine c_seq (c_region ?_)
    refine wv h (r_move h rfl) rfl ?_
    clear h a w; intro a w h
    refine wl rfl (op_call h rfl K.go_check_Seal (check_seal s _ _ _ _ hT hv h.2) rfl ?_)
    clear h a w; intro sv1 a w hx h
    refine wv h (r_assign h rfl) rfl ?_
    clear h a w; intro a w h
    refine wnil (c_then ?_)
    refine c_seq (c_region ?_)
    refine wv h (r_move h rfl) rfl ?_
    clear h a w; intro a w h
    refine wv h (r_conv h rfl K.u_uint16 K.u_int (C.i64_u16) ) rfl ?_
    clear h a w; intro a w h
    refine wv h (r_bin h rfl rfl (B.rem_i64 (by omega) (by omega))) rfl ?_
    clear h a w; intro a w h
    rw [hk] at h
    refine wv h (r_assign h rfl) rfl ?_
    clear h a w; intro a w h
    refine wnil (c_then ?_)
    refine c_seq (c_region ?_)
    refine wv h (r_assign h rfl) rfl ?_
    clear h a w; intro a w h
    refine wnil (c_then ?_)
    refine c_seq ?_
    refine c_seq (c_region ?_)
    have hz : bitsOf (sealN l) = List.zipWith xor (bitsOf (sealN l)) (errAt pat.toNat k 0) := by
      have e0 : errAt pat.toNat k 0 = List.replicate 512 false := by
        rw [errAt_form _ _ _ (by omega)]
        simp only [List.range_zero, List.map_nil, List.append_nil, Nat.sub_zero]
        rw [List.replicate_append_replicate]; congr 1; omega
      rw [e0]
      apply List.ext_getElem?
      intro t
      rw [zip_get, List.getElem?_replicate]
      have hbl : (bitsOf (sealN l)).length = 512 := by rw [bitsOf_len, hsl]
      by_cases ht : t < 512
      · rw [if_pos ht, List.getElem?_eq_getElem (by omega)]; simp
      · rw [List.getElem?_eq_none (by omega)]
    refine wv h (r_assign h rfl) rfl ?_
    clear h a w; intro a w h
    refine wnil (c_then ?_)
    refine c_block ?_
    refine c_loop (X := Nat × List UInt8) (fun x => [(2, w32 pat), (7, sv1), (8, .int .i64 (k : Int)), (9, .bool (anyBit pat.toNat x.1)), (10, .int .i64 (x.1 : Int))])
      (fun x => OwnB sv1 x.2 :: F) (fun x => x.2.length = 64 ∧ bitsOf x.2 = List.zipWith xor (bitsOf (sealN l)) (errAt pat.toNat k x.1) ∧ x.1 ≤ 32 ∧ k + x.1 ≤ 512) (fun x => 32 - x.1)
      (0, sealN l) (h.keep [2, 7, 8, 9, 10]) ⟨hsl, hz, by simp, by simp; omega⟩ ?_
    clear h a w; intro x a w hx h
    obtain ⟨i, xs⟩ := x
    obtain ⟨hx1, hx2, hx3, hx4⟩ := hx
    simp only at h hx1 hx2 hx3 hx4
    refine c_seq ?_
    refine c_meet h (X := Unit) (fun _ => [(2, w32 pat), (7, sv1), (8, .int .i64 (k : Int)), (9, .bool (anyBit pat.toNat i)), (10, .int .i64 (i : Int)), (38, .bool (decide (i < 32 ∧ k + i < 512)))])
      (fun _ => OwnB sv1 xs :: F) (fun _ => True) ?_ ?_
    ·
      have hcs : (decide ((i : Int) < 32) = true ∧ decide ((k : Int) + (i : Int) < 512) = true ∧ decide (i < 32 ∧ k + i < 512) = true) ∨ (decide ((i : Int) < 32) = false ∧ True ∧ decide (i < 32 ∧ k + i < 512) = false) ∨ (decide ((i : Int) < 32) = true ∧ decide ((k : Int) + (i : Int) < 512) = false ∧ decide (i < 32 ∧ k + i < 512) = false) := by
        by_cases h1 : i < 32
        · by_cases h2 : k + i < 512
          · left; exact ⟨decide_eq_true (by omega), decide_eq_true (by omega), decide_eq_true ⟨h1, h2⟩⟩
          · right; right; exact ⟨decide_eq_true (by omega), decide_eq_false (by omega), decide_eq_false (by omega)⟩
        · right; left; exact ⟨decide_eq_false (by omega), trivial, decide_eq_false (by omega)⟩
      have e64 : decide ((xs.length : Int) = 64) = true := decide_eq_true (by omega)
      rcases hcs with ⟨q1, q2, q3⟩ | ⟨q1, q2, q3⟩ | ⟨q1, q2, q3⟩
      all_goals
        refine c_region ?_
        refine wv h (r_move h rfl) rfl ?_
        clear h a w; intro a w h
        refine wv h (r_bin h rfl rfl (B.lss_int)) rfl ?_
        clear h a w; intro a w h
        rw [q1] at h
        refine wv h (r_move h rfl) rfl ?_
        clear h a w; intro a w h
        first
          | (refine wvg h (r_move h rfl) rfl rfl ?_)
          | (refine wvs h rfl rfl ?_)
        clear h a w; intro a w h
        first
          | (refine wvg h (r_move h rfl) rfl rfl ?_)
          | (refine wvs h rfl rfl ?_)
        clear h a w; intro a w h
        first
          | (refine wvg h (r_bin h rfl rfl (B.add_i64 (by omega) (by omega))) rfl rfl ?_)
          | (refine wvs h rfl rfl ?_)
        clear h a w; intro a w h
        first
          | (refine wvg h (r_bin h rfl rfl (B.lss_int)) rfl rfl ?_)
          | (refine wvs h rfl rfl ?_)
        clear h a w; intro a w h
        try rw [q2] at h
        first
          | (refine wv h (r_pick_true h rfl rfl) rfl ?_)
          | (refine wv h (r_pick_false h rfl rfl) rfl ?_)
          | (refine wv h (r_pick h rfl rfl rfl) rfl ?_)
        clear h a w; intro a w h
        refine wv h (r_move h rfl) rfl ?_
        clear h a w; intro a w h
        first
          | (refine wvg h (r_move h rfl) rfl rfl ?_)
          | (refine wvs h rfl rfl ?_)
        clear h a w; intro a w h
        first
          | (refine wvg h (r_lenB h rfl K.u_S_uint8 (ViewsB.own 0 rfl)) rfl rfl ?_)
          | (refine wvs h rfl rfl ?_)
        clear h a w; intro a w h
        first
          | (refine wvg h (r_bin h rfl rfl (B.eql_int)) rfl rfl ?_)
          | (refine wvs h rfl rfl ?_)
        clear h a w; intro a w h
        try rw [e64] at h
        first
          | (refine wv h (r_pick_true h rfl rfl) rfl ?_)
          | (refine wv h (r_pick_false h rfl rfl) rfl ?_)
          | (refine wv h (r_pick h rfl rfl rfl) rfl ?_)
        clear h a w; intro a w h
        refine wnil (c_then ?_)
        rw [q3]
        exact ⟨(), h.keep [2, 7, 8, 9, 10, 38], trivial⟩
    ·
      clear h a w; intro z a w hz h
      refine c_condD h rfl (fun ht2 => ?_) (fun ht2 => ?_)
      ·
        have hbit : pat.toNat.testBit i = decide (pat.toNat / 2 ^ i % 2 = 1) := Nat.testBit_eq_decide_div_mod_eq
        have hbv : (UInt32.ofNat (pat.toNat / 2 ^ (i : Int).toNat) % 2 = 1) ↔ pat.toNat / 2 ^ i % 2 = 1 := by
          have hp := pat.toNat_lt
          have hd : pat.toNat / 2 ^ i ≤ pat.toNat := Nat.div_le_self _ _
          have e : (UInt32.ofNat (pat.toNat / 2 ^ (i : Int).toNat) % 2).toNat = pat.toNat / 2 ^ i % 2 := by
            rw [UInt32.toNat_mod, UInt32.toNat_ofNat', Int.toNat_natCast]
            show pat.toNat / 2 ^ i % 2 ^ 32 % 2 = _
            rw [Nat.mod_eq_of_lt (a := pat.toNat / 2 ^ i) (b := 2 ^ 32) (by omega)]
          constructor
          · intro hh; rw [← e, hh]; rfl
          · intro hh; apply UInt32.toNat_inj.1; rw [e, hh]; rfl
        obtain ⟨b, hb⟩ : ∃ b, xs[(k + i) / 8]? = some b := ⟨xs[(k + i) / 8]'(by omega), by simp⟩
        obtain ⟨g, o, cap, hg, hc⟩ := ViewsB.cell (ViewsB.own 0 rfl) h.2 hb
        refine c_skip ?_
        refine c_then ?_
        refine c_seq ?_
        refine c_block ?_
        refine c_seq (c_region ?_)
        refine wv h (r_move h rfl) rfl ?_
        clear h a w; intro a w h
        refine wv h (r_move h rfl) rfl ?_
        clear h a w; intro a w h
        refine wv h (r_bin h rfl rfl (B.shr_u32 (by omega))) rfl ?_
        clear h a w; intro a w h
        refine wv h (r_bin h rfl rfl (B.rem_u32 (y := 2) (by decide))) rfl ?_
        clear h a w; intro a w h
        refine wv h (r_bin h rfl rfl (B.eql_u32 (y := 1))) rfl ?_
        clear h a w; intro a w h
        refine wnil (c_then ?_)
        refine c_condD h rfl (fun ht3 => ?_) (fun ht3 => ?_)
        ·
          have hbt : pat.toNat.testBit i = true := by rw [hbit]; exact decide_eq_true (hbv.1 ht3)
          have hgx : (List.zipWith xor (bitsOf (sealN l)) (errAt pat.toNat k i))[k + i]? = some (b.toNat.testBit ((k + i) % 8)) := by rw [← hx2, bitsOf_get, hb]; rfl
          have hst := err_step1 (bitsOf (sealN l)) pat.toNat k i _ (by rw [bitsOf_len, hsl]) (by omega) hbt hgx
          have hfl := bits_flip xs (k + i) b hb
          have hpw : UInt8.ofNat ((1 : UInt8).toNat * 2 ^ (((k : Int) + (i : Int)) % 8).toNat) = UInt8.ofNat (2 ^ ((k + i) % 8)) := by
            rw [show (((k : Int) + (i : Int)) % 8).toNat = (k + i) % 8 by omega, show (1 : UInt8).toNat = 1 from rfl, Nat.one_mul]
          refine c_seq (c_held (F) 15 K.mixed rfl h ?_)
          clear h a w; intro a w h
          refine h_take h 0 rfl (by kernel_rfl) (by kernel_rfl) (by kernel_rfl) (fun _ _ _ hh => hh) (by first | exact h.2 | exact h.2.drop 1 | exact h.2.drop 2 | exact h.2.drop 3 | exact h.2.drop 4 | exact h.2.drop 5 | exact h.2.drop 6) (fun w hw => r_move ⟨h.1, hw⟩ rfl) rfl ?_
          clear h a w; intro a w h
          refine h_take h 1 rfl (by kernel_rfl) (by kernel_rfl) (by kernel_rfl) (fun _ _ _ hh => hh) (by first | exact h.2 | exact h.2.drop 1 | exact h.2.drop 2 | exact h.2.drop 3 | exact h.2.drop 4 | exact h.2.drop 5 | exact h.2.drop 6) (fun w hw => r_move ⟨h.1, hw⟩ rfl) rfl ?_
          clear h a w; intro a w h
          refine h_take h 2 rfl (by kernel_rfl) (by kernel_rfl) (by kernel_rfl) (fun _ _ _ hh => hh) (by first | exact h.2 | exact h.2.drop 1 | exact h.2.drop 2 | exact h.2.drop 3 | exact h.2.drop 4 | exact h.2.drop 5 | exact h.2.drop 6) (fun w hw => r_move ⟨h.1, hw⟩ rfl) rfl ?_
          clear h a w; intro a w h
          refine h_take h 3 rfl (by kernel_rfl) (by kernel_rfl) (by kernel_rfl) (fun _ _ _ hh => hh) (by first | exact h.2 | exact h.2.drop 1 | exact h.2.drop 2 | exact h.2.drop 3 | exact h.2.drop 4 | exact h.2.drop 5 | exact h.2.drop 6) (fun w hw => r_bin ⟨h.1, hw⟩ rfl rfl (B.add_i64 (by omega) (by omega))) rfl ?_
          clear h a w; intro a w h
          refine h_take h 4 rfl (by kernel_rfl) (by kernel_rfl) (by kernel_rfl) (fun _ _ _ hh => hh) (by first | exact h.2 | exact h.2.drop 1 | exact h.2.drop 2 | exact h.2.drop 3 | exact h.2.drop 4 | exact h.2.drop 5 | exact h.2.drop 6) (fun w hw => r_bin ⟨h.1, hw⟩ rfl rfl (B.quo_i64 (by omega) (by omega) (by omega))) rfl ?_
          clear h a w; intro a w h
          refine h_take h 5 rfl (by kernel_rfl) (by kernel_rfl) (by kernel_rfl) (fun _ _ _ hh => hh) (by first | exact h.2 | exact h.2.drop 1 | exact h.2.drop 2 | exact h.2.drop 3 | exact h.2.drop 4 | exact h.2.drop 5 | exact h.2.drop 6) (fun w hw => r_idx ⟨h.1, hw⟩ rfl rfl K.u_S_uint8 K.sz_uint8 hg ((k + i) / 8) (by omega) (by omega)) rfl ?_
          clear h a w; intro a w h
          refine h_take h 7 rfl (by kernel_rfl) (by kernel_rfl) (by kernel_rfl) (fun _ _ _ hh => hh) (by first | exact h.2 | exact h.2.drop 1 | exact h.2.drop 2 | exact h.2.drop 3 | exact h.2.drop 4 | exact h.2.drop 5 | exact h.2.drop 6) (fun w hw => r_move ⟨h.1, hw⟩ rfl) rfl ?_
          clear h a w; intro a w h
          refine h_take h 8 rfl (by kernel_rfl) (by kernel_rfl) (by kernel_rfl) (fun _ _ _ hh => hh) (by first | exact h.2 | exact h.2.drop 1 | exact h.2.drop 2 | exact h.2.drop 3 | exact h.2.drop 4 | exact h.2.drop 5 | exact h.2.drop 6) (fun w hw => r_move ⟨h.1, hw⟩ rfl) rfl ?_
          clear h a w; intro a w h
          refine h_take h 9 rfl (by kernel_rfl) (by kernel_rfl) (by kernel_rfl) (fun _ _ _ hh => hh) (by first | exact h.2 | exact h.2.drop 1 | exact h.2.drop 2 | exact h.2.drop 3 | exact h.2.drop 4 | exact h.2.drop 5 | exact h.2.drop 6) (fun w hw => r_bin ⟨h.1, hw⟩ rfl rfl (B.add_i64 (by omega) (by omega))) rfl ?_
          clear h a w; intro a w h
          refine h_take h 10 rfl (by kernel_rfl) (by kernel_rfl) (by kernel_rfl) (fun _ _ _ hh => hh) (by first | exact h.2 | exact h.2.drop 1 | exact h.2.drop 2 | exact h.2.drop 3 | exact h.2.drop 4 | exact h.2.drop 5 | exact h.2.drop 6) (fun w hw => r_bin ⟨h.1, hw⟩ rfl rfl (B.rem_i64 (by omega) (by omega))) rfl ?_
          clear h a w; intro a w h
          refine h_take h 11 rfl (by kernel_rfl) (by kernel_rfl) (by kernel_rfl) (fun _ _ _ hh => hh) (by first | exact h.2 | exact h.2.drop 1 | exact h.2.drop 2 | exact h.2.drop 3 | exact h.2.drop 4 | exact h.2.drop 5 | exact h.2.drop 6) (fun w hw => r_bin ⟨h.1, hw⟩ rfl rfl (B.shl_u8 (x := 1) (by omega))) rfl ?_
          clear h a w; intro a w h
          rw [hpw] at h
          refine h_only 6 rfl rfl (by kernel_rfl) ?_
          refine op_run h (r_loadC h rfl K.u_uint8 rfl hc 0 (.inl ⟨rfl, rfl⟩) rfl) rfl h.2 ?_
          clear h a w; intro a w h
          refine ⟨(by first | exact h.2 | exact h.2.drop 1 | exact h.2.drop 2 | exact h.2.drop 3 | exact h.2.drop 4 | exact h.2.drop 5 | exact h.2.drop 6), ?_⟩
          refine h_take h 12 rfl (by kernel_rfl) (by kernel_rfl) (by kernel_rfl) (fun _ _ _ hh => hh) (by first | exact h.2 | exact h.2.drop 1 | exact h.2.drop 2 | exact h.2.drop 3 | exact h.2.drop 4 | exact h.2.drop 5 | exact h.2.drop 6) (fun w hw => r_bin ⟨h.1, hw⟩ rfl rfl (B.xor_u8)) rfl ?_
          clear h a w; intro a w h
          refine h_take h 13 rfl (by kernel_rfl) (by kernel_rfl) (by kernel_rfl) (fun _ _ _ hh => hh) (by first | exact h.2 | exact h.2.drop 1 | exact h.2.drop 2 | exact h.2.drop 3 | exact h.2.drop 4 | exact h.2.drop 5 | exact h.2.drop 6) (fun w hw => r_idx ⟨h.1, hw⟩ rfl rfl K.u_S_uint8 K.sz_uint8 hg ((k + i) / 8) (by omega) (by omega)) rfl ?_
          clear h a w; intro a w h
          refine h_only 14 rfl rfl (by kernel_rfl) ?_
          refine op_storeb h rfl rfl K.sz_uint8 0 rfl hg ((k + i) / 8) (by omega) (by omega) ?_
          clear h a w; intro a w h
          refine ⟨(by first | exact h.2 | exact h.2.drop 1 | exact h.2.drop 2 | exact h.2.drop 3 | exact h.2.drop 4 | exact h.2.drop 5 | exact h.2.drop 6), ?_⟩
          refine h_done (by kernel_rfl) ?_
          refine c_then ?_
          refine c_region ?_
          refine wv h (r_assign h rfl) rfl ?_
          clear h a w; intro a w h
          refine wnil ?_
          refine b_normal ?_
          refine c_then ?_
          refine c_region ?_
          refine wv h (r_move h rfl) rfl ?_
          clear h a w; intro a w h
          refine wv h (r_bin h rfl rfl (B.add_i64 (by omega) (by omega))) rfl ?_
          clear h a w; intro a w h
          refine wv h (r_assign h rfl) rfl ?_
          clear h a w; intro a w h
          refine wnil ?_
          refine ⟨(i + 1, xs.set ((k + i) / 8) (b ^^^ UInt8.ofNat (2 ^ ((k + i) % 8)))), ?_, ⟨?_, ?_, ?_, ?_⟩, ?_⟩
          · rw [anyBit_succ, hbt, Bool.or_true]
            exact h.keep [2, 7, 8, 9, 10]
          · simpa using hx1
          · show bitsOf (xs.set ((k + i) / 8) (b ^^^ UInt8.ofNat (2 ^ ((k + i) % 8)))) = _
            rw [hfl, hx2, hst]
          · show i + 1 ≤ 32; omega
          · show k + (i + 1) ≤ 512; omega
          · show 32 - (i + 1) < 32 - i; omega
        ·
          have hbt : pat.toNat.testBit i = false := by rw [hbit]; exact decide_eq_false (fun hh => ht3 (hbv.2 hh))
          refine c_skip ?_
          refine b_normal ?_
          refine c_then ?_
          refine c_region ?_
          refine wv h (r_move h rfl) rfl ?_
          clear h a w; intro a w h
          refine wv h (r_bin h rfl rfl (B.add_i64 (by omega) (by omega))) rfl ?_
          clear h a w; intro a w h
          refine wv h (r_assign h rfl) rfl ?_
          clear h a w; intro a w h
          refine wnil ?_
          refine ⟨(i + 1, xs), ?_, ⟨hx1, ?_, ?_, ?_⟩, ?_⟩
          · rw [anyBit_succ, hbt, Bool.or_false]
            exact h.keep [2, 7, 8, 9, 10]
          · show bitsOf xs = List.zipWith xor (bitsOf (sealN l)) (errAt pat.toNat k (i + 1))
            rw [← err_step0 _ _ _ hbt, hx2]
          · show i + 1 ≤ 32; omega
          · show k + (i + 1) ≤ 512; omega
          · show 32 - (i + 1) < 32 - i; omega
      ·
        have hfin := open_err (sealN l) xs pat.toNat k i hx4 hx3 hsl hx1 hso hx2
        have hres : (openN xs == !anyBit pat.toNat i) = true := by
          have h2 := anyBit_false pat.toNat i
          cases h3 : openN xs
          · cases h4 : anyBit pat.toNat i
            · rw [h4] at h2
              have := hfin.2 (h2.1 rfl)
              rw [h3] at this; cases this
            · rfl
          · have := h2.2 (hfin.1 h3)
            rw [this]; rfl
        refine c_exit ?_
        refine e_then ?_
        refine e_then ?_
        refine e_here ?_
        refine c_then ?_
        refine c_seq (c_region ?_)
        refine wv h (r_move h rfl) rfl ?_
        clear h a w; intro a w h
        refine wl rfl (op_call h rfl K.go_check_Open (check_open s _ _ _ _ (CellsAt.cons hT _) (ViewsB.own 0 rfl) h.2) rfl ?_)
        clear h a w; intro q a w hx5 h
        refine wv h (r_move h rfl) rfl ?_
        clear h a w; intro a w h
        refine wv h (r_extract h rfl rfl) rfl ?_
        clear h a w; intro a w h
        refine wv h (r_extract h rfl rfl) rfl ?_
        clear h a w; intro a w h
        refine wv h (r_assign h rfl) rfl ?_
        clear h a w; intro a w h
        refine wv h (r_assign h rfl) rfl ?_
        clear h a w; intro a w h
        refine wnil (c_then ?_)
        refine c_seq (c_region ?_)
        refine wv h (r_move h rfl) rfl ?_
        clear h a w; intro a w h
        refine wv h (r_move h rfl) rfl ?_
        clear h a w; intro a w h
        refine wv h (r_not h rfl) rfl ?_
        clear h a w; intro a w h
        refine wv h (r_booleq h K.u_bool rfl rfl) rfl ?_
        clear h a w; intro a w h
        rw [hres] at h
        refine wv h (r_assign h rfl) rfl ?_
        clear h a w; intro a w h
        refine wnil (c_then ?_)
        refine c_ret ?_
        exact ret1 h rfl rfl ⟨(), rfl, h.2.drop 2, trivial⟩
end Go.Proofs.K
