/- The law on a chart of one element: its walk. -/
import Derived.Test.YthaibfmnpcpkfaaEncode
set_option linter.unusedVariables false
set_option linter.unusedSimpArgs false
set_option maxRecDepth 10000
set_option maxHeartbeats 1000000
namespace Go.Proofs.K
open Go.Sl

theorem numN_small (n : Nat) (h : n < 128) : numN n = [UInt8.ofNat (n + 128)] := by rw [numN, dif_pos h]
theorem rightC_nil : RightC [] := ⟨by simp, by simp, by intro j x y h; simp at h⟩
theorem encC_nil : encC [] = [67, 49, 128] := by
  unfold encC
  rw [show ([] : List El).length = 0 from rfl, numN_small 0 (by omega)]
  rfl
theorem awake10 (s w : World) (F : List HItem) (hs : Sat s w F) :
    Calls P n_law10_awake #[] w (Ret s (fun _ : Unit => .bool true) (fun _ => F) (fun _ => True)) := by
  refine enter K.fn_law10_awake rfl K.nt_law10_awake rfl hs ?_
  clear hs w; intro a w h
  refine c_seq (c_region ?_)
  refine wv h (r_assign h rfl) rfl ?_
  clear h a w; intro a w h
  refine wnil (c_then ?_)
  refine c_seq (c_region ?_)
  refine wl rfl (op_call h rfl K.go_wire_Encode (wire_encode s _ (.slice none 0 0) [] F rightC_nil (Views.nil F 10) h.2) rfl ?_)
  clear h a w; intro q a w hx h
  rw [encC_nil] at h
  refine wv h (r_move h rfl) rfl ?_
  clear h a w; intro a w h
  refine wv h (r_extract h rfl rfl) rfl ?_
  clear h a w; intro a w h
  refine wv h (r_extract h rfl rfl) rfl ?_
  clear h a w; intro a w h
  refine wv h (r_assign h rfl) rfl ?_
  clear h a w; intro a w h
  refine wv h (r_assign h rfl) rfl ?_
  clear h a w; intro a w h
  refine wnil (c_then ?_)
  refine c_seq (c_region ?_)
  refine wv h (r_move h rfl) rfl ?_
  clear h a w; intro a w h
  refine wv h (r_bin h rfl rfl (B.eql_int)) rfl ?_
  clear h a w; intro a w h
  have e1 : decide ((0 : Int) = 0) = true := by decide
  rw [e1] at h
  refine wv h (r_move h rfl) rfl ?_
  clear h a w; intro a w h
  first
    | (refine wvg h (r_move h rfl) rfl rfl ?_)
    | (refine wvs h rfl rfl ?_)
  clear h a w; intro a w h
  refine wvg h (r_b2sb h rfl K.u_S_uint8 K.u_uint8 K.u_string (ViewsB.own 0 rfl)) rfl rfl ?_
  clear h a w; intro a w h
  refine wvg h (r_streq (l := [67, 49, 128]) (m := [67, 49, 128]) h rfl rfl) rfl rfl ?_
  clear h a w; intro a w h
  rw [decide_eq_true rfl] at h
  first
    | (refine wv h (r_pick_true h rfl rfl) rfl ?_)
    | (refine wv h (r_pick_false h rfl rfl) rfl ?_)
    | (refine wv h (r_pick h rfl rfl rfl) rfl ?_)
  clear h a w; intro a w h
  refine wv h (r_assign h rfl) rfl ?_
  clear h a w; intro a w h
  refine wnil (c_then ?_)
  refine c_ret ?_
  exact ret1 h rfl rfl ⟨(), rfl, h.2.drop 1, trivial⟩

theorem wireOne (s w : World) (id : UInt16) (kind : UInt8) (F : List HItem) (hs : Sat s w F) :
    Calls P n_law10_WireOne #[w16 id, bv kind] w (Ret s (fun _ : Unit => .bool true) (fun _ => F) (fun _ => True)) := by
  obtain ⟨m, hm, hml⟩ : ∃ m : Nat, (id % 127).toNat = m ∧ m < 127 := ⟨_, rfl, by rw [UInt16.toNat_mod]; exact Nat.mod_lt _ (by decide)⟩
  have hk : (kind % 128).toNat < 128 := by rw [UInt8.toNat_mod]; exact Nat.mod_lt _ (by decide)
  let e : El := { id := 1 + (m : Int), kind := kind % 128, parent := 0, order := 0, name := [], src := 0, dst := 0, event := [], guard := [], action := [] }
  have hR : RightC [e] := by
    refine ⟨?_, by simp, ?_⟩
    · intro x hx
      rw [List.mem_singleton] at hx
      subst hx
      refine ⟨?_, ?_, ?_, ?_⟩
      · intro n hn; simp [e] at hn; subst hn; omega
      · intro t ht; simp [e] at ht; subst ht; simp
      · show (1 : Int) ≤ 1 + (m : Int); omega
      · show 1 + (m : Int) ≤ 1048576; omega
    · intro j x y h1 h2; simp at h2
  have henc : encC [e] = [67, 49, 129] ++ [UInt8.ofInt (1 + (m : Int)) + 128, kind % 128 + 128, 128, 128, 128, 128, 128, 128, 128, 128] := by
    have n0 : numN 0 = [128] := by rw [numN_small 0 (by omega)]; rfl
    have n1 : numN 1 = [129] := by rw [numN_small 1 (by omega)]; rfl
    have n2 : numN ((1 + (m : Int)) - 0).toNat = [UInt8.ofInt (1 + (m : Int)) + 128] := by
      rw [show ((1 + (m : Int)) - 0).toNat = m + 1 by omega, numN_small (m + 1) (by omega)]
      congr 1
      apply UInt8.toNat_inj.1; simp [UInt8.ofInt, UInt8.toNat_ofNat']; omega
    have n3 : numN (kind % 128).toNat = [kind % 128 + 128] := by
      rw [numN_small _ hk]
      have e3 : UInt8.ofNat ((kind % 128).toNat + 128) = kind % 128 + 128 := by
        apply UInt8.toNat_inj.1
        rw [UInt8.toNat_ofNat', UInt8.toNat_add]; rfl
      rw [e3]
    show [67, 49] ++ numN 1 ++ (numN ((1 + (m : Int)) - 0).toNat ++ numN (kind % 128).toNat ++ numN 0 ++ numN 0 ++ numN 0 ++ numN 0 ++ (numN 0 ++ []) ++ (numN 0 ++ []) ++ (numN 0 ++ []) ++ (numN 0 ++ []) ++ []) = _
    rw [n0, n1, n2, n3]; rfl
  refine enter K.fn_law10_WireOne rfl K.nt_law10_WireOne rfl hs ?_
  clear hs w; intro a w h
  refine c_seq (c_region ?_)
  refine wv h (r_assign h rfl) rfl ?_
  clear h a w; intro a w h
  refine wnil (c_then ?_)
  refine c_seq (c_region ?_)
  refine wv h (r_move h rfl) rfl ?_
  clear h a w; intro a w h
  refine wv h (r_bin h rfl rfl (B.rem_u16 (y := 127) (by decide))) rfl ?_
  clear h a w; intro a w h
  generalize hid : id % 127 = r at h hm
  refine wv h (r_conv h rfl K.u_uint16 K.u_int (C.i64_u16) ) rfl ?_
  clear h a w; intro a w h
  rw [hm] at h
  refine wv h (r_bin h rfl rfl (B.add_i64 (by omega) (by omega))) rfl ?_
  clear h a w; intro a w h
  refine wv h (r_assign h rfl) rfl ?_
  clear h a w; intro a w h
  refine wnil (c_then ?_)
  refine c_seq (c_region ?_)
  refine wv h (r_move h rfl) rfl ?_
  clear h a w; intro a w h
  refine wv h (r_move h rfl) rfl ?_
  clear h a w; intro a w h
  refine wv h (r_bin h rfl rfl (B.rem_u8 (y := 128) (by decide))) rfl ?_
  clear h a w; intro a w h
  refine wv h (r_build (cells := (cellsE e).toArray) h K.u_api_Elem K.z_api_Elem K.pl_api_Elem rfl rfl) rfl ?_
  clear h a w; intro a w h
  refine wl rfl (op_buildSlice (cells := cellsE e) h K.u_api_Chart K.sz_api_Elem K.z_api_Elem rfl rfl rfl rfl (by simp [Value.cells]) (by simp [Value.cells, cellsE]) rfl ?_)
  clear h a w; intro b a w h
  refine wl rfl (op_call h rfl K.go_wire_Encode (wire_encode s _ (.slice (some ⟨b, 0, none⟩) 1 1) [e] _ hR (Views.blk (size := 10) (xs := cellsC [e]) 0 rfl rfl rfl rfl rfl) h.2) rfl ?_)
  clear h a w; intro q a w hx h
  rw [henc] at h
  refine wv h (r_move h rfl) rfl ?_
  clear h a w; intro a w h
  refine wv h (r_extract h rfl rfl) rfl ?_
  clear h a w; intro a w h
  refine wv h (r_extract h rfl rfl) rfl ?_
  clear h a w; intro a w h
  refine wv h (r_assign h rfl) rfl ?_
  clear h a w; intro a w h
  refine wv h (r_assign h rfl) rfl ?_
  clear h a w; intro a w h
  refine wnil (c_then ?_)
  refine c_seq (c_region ?_)
  refine wl rfl (op_call h rfl K.go_law10_awake (awake10 s _ _ h.2) rfl ?_)
  clear h a w; intro x a w hx h
  refine wv h (r_move h rfl) rfl ?_
  clear h a w; intro a w h
  first
    | (refine wvg h (r_move h rfl) rfl rfl ?_)
    | (refine wvs h rfl rfl ?_)
  clear h a w; intro a w h
  first
    | (refine wvg h (r_bin h rfl rfl (B.eql_int)) rfl rfl ?_)
    | (refine wvs h rfl rfl ?_)
  clear h a w; intro a w h
  have e1 : decide ((0 : Int) = 0) = true := by decide
  rw [e1] at h
  first
    | (refine wv h (r_pick_true h rfl rfl) rfl ?_)
    | (refine wv h (r_pick_false h rfl rfl) rfl ?_)
    | (refine wv h (r_pick h rfl rfl rfl) rfl ?_)
  clear h a w; intro a w h
  refine wv h (r_move h rfl) rfl ?_
  clear h a w; intro a w h
  first
    | (refine wvg h (r_move h rfl) rfl rfl ?_)
    | (refine wvs h rfl rfl ?_)
  clear h a w; intro a w h
  refine wvg h (r_b2sb h rfl K.u_S_uint8 K.u_uint8 K.u_string (ViewsB.own 0 rfl)) rfl rfl ?_
  clear h a w; intro a w h
  first
    | (refine wvg h (r_move h rfl) rfl rfl ?_)
    | (refine wvs h rfl rfl ?_)
  clear h a w; intro a w h
  first
    | (refine wvg h (r_conv h rfl K.u_int K.u_uint8 (C.u8_i64) ) rfl rfl ?_)
    | (refine wvs h rfl rfl ?_)
  clear h a w; intro a w h
  first
    | (refine wvg h (r_bin h rfl rfl (B.add_u8 (y := 128))) rfl rfl ?_)
    | (refine wvs h rfl rfl ?_)
  clear h a w; intro a w h
  first
    | (refine wvg h (r_move h rfl) rfl rfl ?_)
    | (refine wvs h rfl rfl ?_)
  clear h a w; intro a w h
  first
    | (refine wvg h (r_bin h rfl rfl (B.rem_u8 (y := 128) (by decide))) rfl rfl ?_)
    | (refine wvs h rfl rfl ?_)
  clear h a w; intro a w h
  first
    | (refine wvg h (r_bin h rfl rfl (B.add_u8 (y := 128))) rfl rfl ?_)
    | (refine wvs h rfl rfl ?_)
  clear h a w; intro a w h
  refine wlg h rfl rfl (op_buildSlice h K.u_S_uint8 K.sz_uint8 K.z_uint8 rfl rfl rfl rfl rfl (by simp [Value.cells, bv, w32, w64, sv]) rfl ?_)
  clear h a w; intro b2 a w h
  replace h := St.toOwnb h [UInt8.ofInt (1 + (m : Int)) + 128, kind % 128 + 128, 128, 128, 128, 128, 128, 128, 128, 128] (NF.zero 10) rfl rfl
  refine wvg h (r_b2sb h rfl K.u_S_uint8 K.u_uint8 K.u_string (ViewsB.own 0 rfl)) rfl rfl ?_
  clear h a w; intro a w h
  refine wvg h (r_strcat (l := [67, 49, 129]) (m := [UInt8.ofInt (1 + (m : Int)) + 128, kind % 128 + 128, 128, 128, 128, 128, 128, 128, 128, 128]) h rfl rfl (by simp)) rfl rfl ?_
  clear h a w; intro a w h
  refine wvg h (r_streq (l := [67, 49, 129] ++ [UInt8.ofInt (1 + (m : Int)) + 128, kind % 128 + 128, 128, 128, 128, 128, 128, 128, 128, 128]) (m := [67, 49, 129] ++ [UInt8.ofInt (1 + (m : Int)) + 128, kind % 128 + 128, 128, 128, 128, 128, 128, 128, 128, 128]) h rfl rfl) rfl rfl ?_
  clear h a w; intro a w h
  rw [decide_eq_true rfl] at h
  first
    | (refine wv h (r_pick_true h rfl rfl) rfl ?_)
    | (refine wv h (r_pick_false h rfl rfl) rfl ?_)
    | (refine wv h (r_pick h rfl rfl rfl) rfl ?_)
  clear h a w; intro a w h
  refine wv h (r_assign h rfl) rfl ?_
  clear h a w; intro a w h
  refine wnil (c_then ?_)
  refine c_ret ?_
  exact ret1 h rfl rfl ⟨(), rfl, h.2.drop 3, trivial⟩
end Go.Proofs.K
