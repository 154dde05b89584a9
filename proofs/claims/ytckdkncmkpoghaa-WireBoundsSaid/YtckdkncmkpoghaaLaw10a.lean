/- The law on a chart of one element: its walk. -/
import Derived.Test.YtckdkncmkpoghaaEncode
set_option linter.unusedVariables false
set_option linter.unusedSimpArgs false
set_option maxRecDepth 10000
set_option maxHeartbeats 1000000
namespace Go.Proofs.K
open Go.Sl

theorem numN_small (n : Nat) (h : n < 128) : numN n = [UInt8.ofNat (n + 128)] := by rw [numN, dif_pos h]
theorem rightC_nil : RightC [] := ⟨by simp, by simp, by intro j x y h; simp at h⟩
theorem encC_nil : encC [] = [67, 49, 128] := by
  unfold encC
  rw [show ([] : List El).length = 0 from rfl, numN_small 0 (by omega)]
  rfl
theorem awake10 (s w : World) (F : List HItem) (hs : Sat s w F) :
    Calls P n_law10_awake #[] w (Ret s (fun _ : Unit => .bool true) (fun _ => F) (fun _ => True)) := by
  refine enter K.fn_law10_awake rfl K.nt_law10_awake rfl hs ?_
  clear hs w; intro a w h
  refine c_seq (c_region ?_)
  refine wv h (r_assign h rfl) rfl ?_
  clear h a w; intro a w h
  refine wnil (c_then ?_)
  refine c_seq (c_region ?_)
  refine wl rfl (op_call h rfl K.go_wire_Encode (wire_encode s _ (.slice none 0 0) [] F rightC_nil (Views.nil F 10) h.2) rfl ?_)
  clear h a w; intro q a w hx h
  rw [encC_nil] at h
  refine wv h (r_move h rfl) rfl ?_
  clear h a w; intro a w h
  refine wv h (r_extract h rfl rfl) rfl ?_
  clear h a w; intro a w h
  refine wv h (r_extract h rfl rfl) rfl ?_
  clear h a w; intro a w h
  refine wv h (r_assign h rfl) rfl ?_
  clear h a w; intro a w h
  refine wv h (r_assign h rfl) rfl ?_
  clear h a w; intro a w h
  refine wnil (c_then ?_)
  refine c_seq (c_region ?_)
  refine wv h (r_move h rfl) rfl ?_
  clear h a w; intro a w h
  refine wv h (r_bin h rfl rfl (B.eql_int)) rfl ?_
  clear h a w; intro a w h
  have e1 : decide ((0 : Int) = 0) = true := by decide
  rw [e1] at h
  refine wv h (r_move h rfl) rfl ?_
  clear h a w; intro a w h
  first
    | (refine wvg h (r_move h rfl) rfl rfl ?_)
    | (refine wvs h rfl rfl ?_)
  clear h a w; intro a w h
  refine wvg h (r_b2sb h rfl K.u_S_uint8 K.u_uint8 K.u_string (ViewsB.own 0 rfl)) rfl rfl ?_
  clear h a w; intro a w h
  refine wvg h (r_streq (l := [67, 49, 128]) (m := [67, 49, 128]) h rfl rfl) rfl rfl ?_
  clear h a w; intro a w h
  rw [decide_eq_true rfl] at h
  first
    | (refine wv h (r_pick_true h rfl rfl) rfl ?_)
    | (refine wv h (r_pick_false h rfl rfl) rfl ?_)
    | (refine wv h (r_pick h rfl rfl rfl) rfl ?_)
  clear h a w; intro a w h
  refine wv h (r_assign h rfl) rfl ?_
  clear h a w; intro a w h
  refine wnil (c_then ?_)
  refine c_ret ?_
  exact ret1 h rfl rfl ⟨(), rfl, h.2.drop 1, trivial⟩

end Go.Proofs.K
