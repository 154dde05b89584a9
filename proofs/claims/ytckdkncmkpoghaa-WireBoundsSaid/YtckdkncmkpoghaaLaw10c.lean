/- The laws of layer 10, walked: as much as may be, and one more. -/
import Derived.Test.YtckdkncmkpoghaaLaw10
set_option linter.unusedVariables false
set_option linter.unusedSimpArgs false
set_option maxRecDepth 10000
set_option maxHeartbeats 2000000
namespace Go.Proofs.K
open Go.Sl
attribute [local irreducible] Go.Sl.Own Go.Sl.Blk Go.Sl.Sep Go.Sl.Ex Go.Sl.Fact

def mkI (i : Int) (k : UInt8) : El := ⟨i, k, 0, 0, [], 0, 0, [], [], []⟩
def rowI (i : Nat) : List El := mkI 1 255 :: (List.range i).map fun j : Nat => mkI ((j : Int) + 2) 0
theorem rowI_len (i : Nat) : (rowI i).length = i + 1 := by simp [rowI]
theorem rowI_succ (i : Nat) : rowI (i + 1) = rowI i ++ [mkI ((i : Int) + 2) 0] := by simp [rowI, List.range_succ]
def twelve : List UInt8 := [116, 119, 101, 108, 118, 101, 32, 98, 121, 116, 101, 115]
theorem two {n : Nat} (h : n ≤ 1) : n = 0 ∨ n = 1 := by omega
theorem bd0 {n : Nat} (h : n ≤ 1) : rightB (rowI (39 + n)) = decide (n = 0) := by rcases two h with rfl | rfl <;> decide +kernel
theorem bd1 {n : Nat} (h : n ≤ 1) : rightB [(⟨1048576 + (n : Int), 255, 0, 0, [], 0, 0, [], [], []⟩ : El)] = decide (n = 0) := by rcases two h with rfl | rfl <;> decide +kernel
theorem bd2 {n : Nat} (h : n ≤ 1) : rightB [(⟨1, 255, 1048576 + (n : Int), 0, [], 0, 0, [], [], []⟩ : El)] = decide (n = 0) := by rcases two h with rfl | rfl <;> decide +kernel
theorem bd3 {n : Nat} (h : n ≤ 1) : rightB [(⟨1, 255, 0, 1048576 + (n : Int), [], 0, 0, [], [], []⟩ : El)] = decide (n = 0) := by rcases two h with rfl | rfl <;> decide +kernel
theorem bd4 {n : Nat} (h : n ≤ 1) : rightB [(⟨1, 255, 0, 0, [], -(n : Int), 0, [], [], []⟩ : El)] = decide (n = 0) := by rcases two h with rfl | rfl <;> decide +kernel
theorem bd5 {n : Nat} (h : n ≤ 1) : rightB [(⟨1, 255, 0, 0, (twelve.drop 0).take (12 - n - 0) ++ List.replicate (2 * n) 0, 0, 0, [], [], []⟩ : El)] = decide (n = 0) := by rcases two h with rfl | rfl <;> decide +kernel
theorem bd6 {n : Nat} (h : n ≤ 1) : rightB [(⟨1, 255, 0, 0, [], 0, 0, [], [], twelve ++ List.replicate n 0⟩ : El)] = decide (n = 0) := by rcases two h with rfl | rfl <;> decide +kernel
theorem bd7 {n : Nat} (h : n ≤ 1) : rightB ([mkI 1 255] ++ [mkI (2 - (n : Int)) 0]) = decide (n = 0) := by rcases two h with rfl | rfl <;> decide +kernel

theorem wireBounds (s w : World) (how : UInt8) (more : Bool) (F : List HItem) (hs : Sat s w F) :
    Calls P n_law10_WireBounds #[bv how, .bool more] w (Ret s (fun _ : Unit => .bool true) (fun _ => F) (fun _ => True)) := by
  refine enter K.fn_law10_WireBounds rfl K.nt_law10_WireBounds rfl hs ?_
  clear hs w; intro a w h
  refine c_seq (c_region ?_)
  refine wv h (r_assign h rfl) rfl ?_
  clear h a w; intro a w h
  refine wnil (c_then ?_)
  refine c_seq (c_region ?_)
  refine wv h (r_assign h rfl) rfl ?_
  clear h a w; intro a w h
  refine wnil (c_then ?_)
  refine c_meet h (X := Nat) (fun n => [(0, bv how), (1, .bool more), (5, .int .i64 (n : Int))]) (fun _ => F) (fun n => n ≤ 1 ∧ decide (n = 0) = !more) ?_ ?_
  ·
    refine c_seq (c_region ?_)
    refine wv h (r_move h rfl) rfl ?_
    clear h a w; intro a w h
    refine wnil (c_then ?_)
    first
      | refine c_condD h rfl (fun ht1 => ?_) (fun ht1 => ?_)
      | refine c_condP h rfl (by first | (simp only [Bool.and_eq_true, Bool.or_eq_true, Bool.not_eq_true', decide_eq_true_eq, decide_eq_false_iff_not, ne_eq, Bool.not_eq_eq_eq_not, Bool.not_true, beq_iff_eq, bne_iff_ne]; exact Iff.rfl) | exact Iff.rfl) (fun ht1 => ?_) (fun ht1 => ?_)
    ·
      as_aux_lemma =>
        refine c_region ?_
        refine wv h (r_assign h rfl) rfl ?_
        clear h a w; intro a w h
        refine wnil ?_
        exact ⟨1, h.keep [0, 1, 5], by rw [ht1]; decide⟩
    ·
      refine c_skip ?_
      exact ⟨0, h.keep [0, 1, 5], by rw [show more = false by simpa using ht1]; decide⟩
  ·
    clear h a w; intro z a w hz h
    obtain ⟨n, hn⟩ : ∃ n, n = z := ⟨_, rfl⟩
    rw [← hn] at h hz
    obtain ⟨hn1, hn2⟩ := hz
    clear hn
    refine c_seq (c_region ?_)
    refine wv h (r_build (cells := ⟨cellsE (mkI 1 255)⟩) h K.u_api_Elem K.z_api_Elem K.pl_api_Elem rfl (by kernel_rfl)) rfl ?_
    clear h a w; intro a w h
    refine wl rfl (op_build1 h K.u_api_Chart K.sz_api_Elem K.z_api_Elem rfl rfl rfl (by first | exact Row.len _ | rfl | assumption | (simp; done) | (simp; omega) | omega) rfl ?_)
    clear h a w; intro b14 a w h
    replace h := h.toOwnM (size := 10) (cells := cellsE) (N := 1) [mkI 1 255] (NF.zero _) rfl rfl rfl
    obtain ⟨v14, hv14⟩ : ∃ v : Value, v = .slice (some ⟨b14, 0, none⟩) 1 1 := ⟨_, rfl⟩
    rw [← hv14] at h
    refine wv h (r_assign h rfl) rfl ?_
    clear h a w; intro a w h
    refine wnil (c_then ?_)
    refine c_meet h (X := Value × List El) (fun x => [(1, .bool more), (6, x.1)]) (fun x => OwnM 10 cellsE x.1 x.2 :: F) (fun x => x.2.length ≤ 41 ∧ rightB x.2 = !more) ?_ ?_
    ·
      refine c_seq (c_region ?_)
      refine wv h (r_move h rfl) rfl ?_
      clear h a w; intro a w h
      refine wv h (r_bin h rfl rfl (B.rem_u8 (y := 8) (by decide))) rfl ?_
      clear h a w; intro a w h
      refine wnil (c_then ?_)
      refine c_block ?_
      refine c_seq (c_region ?_)
      refine wv h (r_bin h rfl rfl (B.eql_u8 (y := 0))) rfl ?_
      clear h a w; intro a w h
      refine wv h (r_assign h rfl) rfl ?_
      clear h a w; intro a w h
      refine wnil (c_then ?_)
      first
        | refine c_condD h rfl (fun ht2 => ?_) (fun ht2 => ?_)
        | refine c_condP h rfl (by first | (simp only [Bool.and_eq_true, Bool.or_eq_true, Bool.not_eq_true', decide_eq_true_eq, decide_eq_false_iff_not, ne_eq, Bool.not_eq_eq_eq_not, Bool.not_true, beq_iff_eq, bne_iff_ne]; exact Iff.rfl) | exact Iff.rfl) (fun ht2 => ?_) (fun ht2 => ?_)
      ·
        as_aux_lemma =>
          refine c_seq (c_region ?_)
          refine wv h (r_assign h rfl) rfl ?_
          clear h a w; intro a w h
          refine wnil (c_then ?_)
          refine c_block ?_
          refine c_loopX h (X := Nat × Value) (fun x => [(1, .bool more), (5, .int .i64 (n : Int)), (6, x.2), (7, .int .i64 (x.1 : Int))]) (fun x => OwnM 10 cellsE x.2 (rowI x.1) :: F) (fun x => x.1 ≤ 39 + n) (fun x => 40 - x.1) (0, v14) (h.keep [1, 5, 6, 7]) (Nat.zero_le _) ?_
          clear h a w; intro x a w hx h
          obtain ⟨i, v⟩ := x
          replace hx : i ≤ 39 + n := hx
          dsimp only at h
          have hrl := rowI_len i
          as_aux_lemma =>
            refine c_seq ?_
            refine c_seq (c_region ?_)
            refine wv h (r_move h rfl) rfl ?_
            clear h a w; intro a w h
            refine wv h (r_move h rfl) rfl ?_
            clear h a w; intro a w h
            refine wv h (r_bin h rfl rfl (B.add_i64 (by omega) (by omega))) rfl ?_
            clear h a w; intro a w h
            refine wv h (r_bin h rfl rfl (B.lss_int)) rfl ?_
            clear h a w; intro a w h
            refine wnil (c_then ?_)
            first
              | refine c_condD h rfl (fun ht3 => ?_) (fun ht3 => ?_)
              | refine c_condP h rfl (by first | (simp only [Bool.and_eq_true, Bool.or_eq_true, Bool.not_eq_true', decide_eq_true_eq, decide_eq_false_iff_not, ne_eq, Bool.not_eq_eq_eq_not, Bool.not_true, beq_iff_eq, bne_iff_ne]; exact Iff.rfl) | exact Iff.rfl) (fun ht3 => ?_) (fun ht3 => ?_)
            ·
              refine c_skip ?_
              refine c_then ?_
              refine c_seq ?_
              refine c_block ?_
              refine c_region ?_
              refine wv h (r_move h rfl) rfl ?_
              clear h a w; intro a w h
              refine wv h (r_move h rfl) rfl ?_
              clear h a w; intro a w h
              refine wv h (r_bin h rfl rfl (B.add_i64 (by omega) (by omega))) rfl ?_
              clear h a w; intro a w h
              refine wv h (r_build (cells := ⟨cellsE (mkI ((i : Int) + 2) 0)⟩) h K.u_api_Elem K.z_api_Elem K.pl_api_Elem rfl (by kernel_rfl)) rfl ?_
              clear h a w; intro a w h
              refine wl rfl (op_build1 h K.u_api_Chart K.sz_api_Elem K.z_api_Elem rfl rfl rfl (by first | exact Row.len _ | rfl | assumption | (simp; done) | (simp; omega) | omega) rfl ?_)
              clear h a w; intro b35 a w h
              first
                | (refine wl rfl (op_appendR1 h rfl rfl K.u_api_Chart K.sz_api_Elem K.z_api_Elem rfl rfl 0 rfl (by first | omega | (simp only [List.length_cons, List.length_nil]; omega) | (simp; done) | (simp; omega)) rfl ?_))
                | (refine wl rfl (op_appendR1 h rfl rfl K.u_api_Chart K.sz_api_Elem K.z_api_Elem rfl rfl 1 rfl (by first | omega | (simp only [List.length_cons, List.length_nil]; omega) | (simp; done) | (simp; omega)) rfl ?_))
                | (refine wl rfl (op_appendR1 h rfl rfl K.u_api_Chart K.sz_api_Elem K.z_api_Elem rfl rfl 2 rfl (by first | omega | (simp only [List.length_cons, List.length_nil]; omega) | (simp; done) | (simp; omega)) rfl ?_))
                | (refine wl rfl (op_appendR1 h rfl rfl K.u_api_Chart K.sz_api_Elem K.z_api_Elem rfl rfl 3 rfl (by first | omega | (simp only [List.length_cons, List.length_nil]; omega) | (simp; done) | (simp; omega)) rfl ?_))
                | (refine wl rfl (op_appendR1 h rfl rfl K.u_api_Chart K.sz_api_Elem K.z_api_Elem rfl rfl 4 rfl (by first | omega | (simp only [List.length_cons, List.length_nil]; omega) | (simp; done) | (simp; omega)) rfl ?_))
                | (refine wl rfl (op_appendR1 h rfl rfl K.u_api_Chart K.sz_api_Elem K.z_api_Elem rfl rfl 5 rfl (by first | omega | (simp only [List.length_cons, List.length_nil]; omega) | (simp; done) | (simp; omega)) rfl ?_))
              clear h a w; intro v36 a w h
              (try simp only [List.set_cons_zero, List.set_cons_succ] at h)
              refine wv h (r_assign h rfl) rfl ?_
              clear h a w; intro a w h
              refine wnil ?_
              refine b_normal ?_
              refine c_then ?_
              refine c_region ?_
              refine wv h (r_move h rfl) rfl ?_
              clear h a w; intro a w h
              refine wv h (r_bin h rfl rfl (B.add_i64 (by omega) (by omega))) rfl ?_
              clear h a w; intro a w h
              refine wv h (r_assign h rfl) rfl ?_
              clear h a w; intro a w h
              refine wnil ?_
              exact ⟨(i + 1, v36), by dsimp only; rw [rowI_succ]; exact h.keep [1, 5, 6, 7], by show i + 1 ≤ 39 + n; omega, by show 40 - (i + 1) < 40 - i; omega⟩
            ·
              obtain rfl : i = 39 + n := by omega
              refine c_exit ?_
              refine e_then ?_
              refine e_then ?_
              refine e_here ?_
              refine b_normal ?_
              exact ⟨(v, rowI (39 + n)), h.keep [1, 6], by show (rowI (39 + n)).length ≤ 41; omega, by rw [← hn2]; exact bd0 hn1⟩
      ·
        refine c_seq (c_region ?_)
        refine wv h (r_bin h rfl rfl (B.eql_u8 (y := 1))) rfl ?_
        clear h a w; intro a w h
        refine wv h (r_assign h rfl) rfl ?_
        clear h a w; intro a w h
        refine wnil (c_then ?_)
        first
          | refine c_condD h rfl (fun ht4 => ?_) (fun ht4 => ?_)
          | refine c_condP h rfl (by first | (simp only [Bool.and_eq_true, Bool.or_eq_true, Bool.not_eq_true', decide_eq_true_eq, decide_eq_false_iff_not, ne_eq, Bool.not_eq_eq_eq_not, Bool.not_true, beq_iff_eq, bne_iff_ne]; exact Iff.rfl) | exact Iff.rfl) (fun ht4 => ?_) (fun ht4 => ?_)
        ·
          as_aux_lemma =>
            refine c_region ?_
            refine wv h (r_move h rfl) rfl ?_
            clear h a w; intro a w h
            refine wv h (r_move h rfl) rfl ?_
            clear h a w; intro a w h
            refine wv h (r_bin h rfl rfl (B.add_i64 (by omega) (by omega))) rfl ?_
            clear h a w; intro a w h
            refine wv h (r_elP h rfl rfl K.u_api_Chart K.sz_api_Elem (by first | exact Views.own 0 rfl | exact Views.own 1 rfl | exact Views.own 2 rfl | exact Views.own 3 rfl | exact Views.own 4 rfl | exact Views.own 5 rfl | assumption | exact Views.of_drop 1 (by assumption) | exact Views.of_drop 2 (by assumption) | exact Views.of_drop 3 (by assumption) | exact Views.of_drop 4 (by assumption) | exact Views.of_drop 5 (by assumption) | exact Views.of_drop 6 (by assumption) | exact Views.of_drop 7 (by assumption) | exact Views.of_drop 8 (by assumption) | exact Views.of_drop 9 (by assumption) | exact Views.of_drop 10 (by assumption) | exact Views.of_drop 11 (by assumption) | exact Views.of_drop 12 (by assumption)) (by first | omega | (simp; done)) (by first | omega | (simp only [List.length_cons, List.length_nil]; omega) | (simp; done) | (simp; omega))) rfl ?_
            clear h a w; intro a w h
            refine wv h (r_elF h 0 rfl K.u_api_Elem rfl K.sz_int rfl rfl (by first | exact Views.own 0 rfl | exact Views.own 1 rfl | exact Views.own 2 rfl | exact Views.own 3 rfl | exact Views.own 4 rfl | exact Views.own 5 rfl | assumption | exact Views.of_drop 1 (by assumption) | exact Views.of_drop 2 (by assumption) | exact Views.of_drop 3 (by assumption) | exact Views.of_drop 4 (by assumption) | exact Views.of_drop 5 (by assumption) | exact Views.of_drop 6 (by assumption) | exact Views.of_drop 7 (by assumption) | exact Views.of_drop 8 (by assumption) | exact Views.of_drop 9 (by assumption) | exact Views.of_drop 10 (by assumption) | exact Views.of_drop 11 (by assumption) | exact Views.of_drop 12 (by assumption)) (by first | omega | (simp only [List.length_cons, List.length_nil]; omega) | (simp; done) | (simp; omega))) rfl ?_
            clear h a w; intro a w h
            refine wl rfl (op_storeRf (cells := cellsE) (l := [mkI 1 255]) h ⟨1048576 + (n : Int), 255, 0, 0, [], 0, 0, [], [], []⟩ rfl rfl K.sz_int rfl rfl (by decide) rfl 0 rfl ?_)
            clear h a w; intro a w h
            refine wnil ?_
            refine b_normal ?_
            exact ⟨(v14, _), h.keep [1, 6], by simp, by rw [← hn2]; exact bd1 hn1⟩
        ·
          refine c_seq (c_region ?_)
          refine wv h (r_bin h rfl rfl (B.eql_u8 (y := 2))) rfl ?_
          clear h a w; intro a w h
          refine wv h (r_assign h rfl) rfl ?_
          clear h a w; intro a w h
          refine wnil (c_then ?_)
          first
            | refine c_condD h rfl (fun ht5 => ?_) (fun ht5 => ?_)
            | refine c_condP h rfl (by first | (simp only [Bool.and_eq_true, Bool.or_eq_true, Bool.not_eq_true', decide_eq_true_eq, decide_eq_false_iff_not, ne_eq, Bool.not_eq_eq_eq_not, Bool.not_true, beq_iff_eq, bne_iff_ne]; exact Iff.rfl) | exact Iff.rfl) (fun ht5 => ?_) (fun ht5 => ?_)
          ·
            as_aux_lemma =>
              refine c_region ?_
              refine wv h (r_move h rfl) rfl ?_
              clear h a w; intro a w h
              refine wv h (r_move h rfl) rfl ?_
              clear h a w; intro a w h
              refine wv h (r_bin h rfl rfl (B.add_i64 (by omega) (by omega))) rfl ?_
              clear h a w; intro a w h
              refine wv h (r_elP h rfl rfl K.u_api_Chart K.sz_api_Elem (by first | exact Views.own 0 rfl | exact Views.own 1 rfl | exact Views.own 2 rfl | exact Views.own 3 rfl | exact Views.own 4 rfl | exact Views.own 5 rfl | assumption | exact Views.of_drop 1 (by assumption) | exact Views.of_drop 2 (by assumption) | exact Views.of_drop 3 (by assumption) | exact Views.of_drop 4 (by assumption) | exact Views.of_drop 5 (by assumption) | exact Views.of_drop 6 (by assumption) | exact Views.of_drop 7 (by assumption) | exact Views.of_drop 8 (by assumption) | exact Views.of_drop 9 (by assumption) | exact Views.of_drop 10 (by assumption) | exact Views.of_drop 11 (by assumption) | exact Views.of_drop 12 (by assumption)) (by first | omega | (simp; done)) (by first | omega | (simp only [List.length_cons, List.length_nil]; omega) | (simp; done) | (simp; omega))) rfl ?_
              clear h a w; intro a w h
              refine wv h (r_elF h 2 rfl K.u_api_Elem rfl K.sz_int rfl rfl (by first | exact Views.own 0 rfl | exact Views.own 1 rfl | exact Views.own 2 rfl | exact Views.own 3 rfl | exact Views.own 4 rfl | exact Views.own 5 rfl | assumption | exact Views.of_drop 1 (by assumption) | exact Views.of_drop 2 (by assumption) | exact Views.of_drop 3 (by assumption) | exact Views.of_drop 4 (by assumption) | exact Views.of_drop 5 (by assumption) | exact Views.of_drop 6 (by assumption) | exact Views.of_drop 7 (by assumption) | exact Views.of_drop 8 (by assumption) | exact Views.of_drop 9 (by assumption) | exact Views.of_drop 10 (by assumption) | exact Views.of_drop 11 (by assumption) | exact Views.of_drop 12 (by assumption)) (by first | omega | (simp only [List.length_cons, List.length_nil]; omega) | (simp; done) | (simp; omega))) rfl ?_
              clear h a w; intro a w h
              refine wl rfl (op_storeRf (cells := cellsE) (l := [mkI 1 255]) h ⟨1, 255, 1048576 + (n : Int), 0, [], 0, 0, [], [], []⟩ rfl rfl K.sz_int rfl rfl (by decide) rfl 0 rfl ?_)
              clear h a w; intro a w h
              refine wnil ?_
              refine b_normal ?_
              exact ⟨(v14, _), h.keep [1, 6], by simp, by rw [← hn2]; exact bd2 hn1⟩
          ·
            refine c_seq (c_region ?_)
            refine wv h (r_bin h rfl rfl (B.eql_u8 (y := 3))) rfl ?_
            clear h a w; intro a w h
            refine wv h (r_assign h rfl) rfl ?_
            clear h a w; intro a w h
            refine wnil (c_then ?_)
            first
              | refine c_condD h rfl (fun ht6 => ?_) (fun ht6 => ?_)
              | refine c_condP h rfl (by first | (simp only [Bool.and_eq_true, Bool.or_eq_true, Bool.not_eq_true', decide_eq_true_eq, decide_eq_false_iff_not, ne_eq, Bool.not_eq_eq_eq_not, Bool.not_true, beq_iff_eq, bne_iff_ne]; exact Iff.rfl) | exact Iff.rfl) (fun ht6 => ?_) (fun ht6 => ?_)
            ·
              as_aux_lemma =>
                refine c_region ?_
                refine wv h (r_move h rfl) rfl ?_
                clear h a w; intro a w h
                refine wv h (r_move h rfl) rfl ?_
                clear h a w; intro a w h
                refine wv h (r_bin h rfl rfl (B.add_i64 (by omega) (by omega))) rfl ?_
                clear h a w; intro a w h
                refine wv h (r_elP h rfl rfl K.u_api_Chart K.sz_api_Elem (by first | exact Views.own 0 rfl | exact Views.own 1 rfl | exact Views.own 2 rfl | exact Views.own 3 rfl | exact Views.own 4 rfl | exact Views.own 5 rfl | assumption | exact Views.of_drop 1 (by assumption) | exact Views.of_drop 2 (by assumption) | exact Views.of_drop 3 (by assumption) | exact Views.of_drop 4 (by assumption) | exact Views.of_drop 5 (by assumption) | exact Views.of_drop 6 (by assumption) | exact Views.of_drop 7 (by assumption) | exact Views.of_drop 8 (by assumption) | exact Views.of_drop 9 (by assumption) | exact Views.of_drop 10 (by assumption) | exact Views.of_drop 11 (by assumption) | exact Views.of_drop 12 (by assumption)) (by first | omega | (simp; done)) (by first | omega | (simp only [List.length_cons, List.length_nil]; omega) | (simp; done) | (simp; omega))) rfl ?_
                clear h a w; intro a w h
                refine wv h (r_elF h 3 rfl K.u_api_Elem rfl K.sz_int rfl rfl (by first | exact Views.own 0 rfl | exact Views.own 1 rfl | exact Views.own 2 rfl | exact Views.own 3 rfl | exact Views.own 4 rfl | exact Views.own 5 rfl | assumption | exact Views.of_drop 1 (by assumption) | exact Views.of_drop 2 (by assumption) | exact Views.of_drop 3 (by assumption) | exact Views.of_drop 4 (by assumption) | exact Views.of_drop 5 (by assumption) | exact Views.of_drop 6 (by assumption) | exact Views.of_drop 7 (by assumption) | exact Views.of_drop 8 (by assumption) | exact Views.of_drop 9 (by assumption) | exact Views.of_drop 10 (by assumption) | exact Views.of_drop 11 (by assumption) | exact Views.of_drop 12 (by assumption)) (by first | omega | (simp only [List.length_cons, List.length_nil]; omega) | (simp; done) | (simp; omega))) rfl ?_
                clear h a w; intro a w h
                refine wl rfl (op_storeRf (cells := cellsE) (l := [mkI 1 255]) h ⟨1, 255, 0, 1048576 + (n : Int), [], 0, 0, [], [], []⟩ rfl rfl K.sz_int rfl rfl (by decide) rfl 0 rfl ?_)
                clear h a w; intro a w h
                refine wnil ?_
                refine b_normal ?_
                exact ⟨(v14, _), h.keep [1, 6], by simp, by rw [← hn2]; exact bd3 hn1⟩
            ·
              refine c_seq (c_region ?_)
              refine wv h (r_bin h rfl rfl (B.eql_u8 (y := 4))) rfl ?_
              clear h a w; intro a w h
              refine wv h (r_assign h rfl) rfl ?_
              clear h a w; intro a w h
              refine wnil (c_then ?_)
              first
                | refine c_condD h rfl (fun ht7 => ?_) (fun ht7 => ?_)
                | refine c_condP h rfl (by first | (simp only [Bool.and_eq_true, Bool.or_eq_true, Bool.not_eq_true', decide_eq_true_eq, decide_eq_false_iff_not, ne_eq, Bool.not_eq_eq_eq_not, Bool.not_true, beq_iff_eq, bne_iff_ne]; exact Iff.rfl) | exact Iff.rfl) (fun ht7 => ?_) (fun ht7 => ?_)
              ·
                as_aux_lemma =>
                  refine c_region ?_
                  refine wv h (r_move h rfl) rfl ?_
                  clear h a w; intro a w h
                  refine wv h (r_move h rfl) rfl ?_
                  clear h a w; intro a w h
                  refine wv h (r_neg h rfl (by omega) (by omega)) rfl ?_
                  clear h a w; intro a w h
                  refine wv h (r_elP h rfl rfl K.u_api_Chart K.sz_api_Elem (by first | exact Views.own 0 rfl | exact Views.own 1 rfl | exact Views.own 2 rfl | exact Views.own 3 rfl | exact Views.own 4 rfl | exact Views.own 5 rfl | assumption | exact Views.of_drop 1 (by assumption) | exact Views.of_drop 2 (by assumption) | exact Views.of_drop 3 (by assumption) | exact Views.of_drop 4 (by assumption) | exact Views.of_drop 5 (by assumption) | exact Views.of_drop 6 (by assumption) | exact Views.of_drop 7 (by assumption) | exact Views.of_drop 8 (by assumption) | exact Views.of_drop 9 (by assumption) | exact Views.of_drop 10 (by assumption) | exact Views.of_drop 11 (by assumption) | exact Views.of_drop 12 (by assumption)) (by first | omega | (simp; done)) (by first | omega | (simp only [List.length_cons, List.length_nil]; omega) | (simp; done) | (simp; omega))) rfl ?_
                  clear h a w; intro a w h
                  refine wv h (r_elF h 5 rfl K.u_api_Elem rfl K.sz_int rfl rfl (by first | exact Views.own 0 rfl | exact Views.own 1 rfl | exact Views.own 2 rfl | exact Views.own 3 rfl | exact Views.own 4 rfl | exact Views.own 5 rfl | assumption | exact Views.of_drop 1 (by assumption) | exact Views.of_drop 2 (by assumption) | exact Views.of_drop 3 (by assumption) | exact Views.of_drop 4 (by assumption) | exact Views.of_drop 5 (by assumption) | exact Views.of_drop 6 (by assumption) | exact Views.of_drop 7 (by assumption) | exact Views.of_drop 8 (by assumption) | exact Views.of_drop 9 (by assumption) | exact Views.of_drop 10 (by assumption) | exact Views.of_drop 11 (by assumption) | exact Views.of_drop 12 (by assumption)) (by first | omega | (simp only [List.length_cons, List.length_nil]; omega) | (simp; done) | (simp; omega))) rfl ?_
                  clear h a w; intro a w h
                  refine wl rfl (op_storeRf (cells := cellsE) (l := [mkI 1 255]) h ⟨1, 255, 0, 0, [], -(n : Int), 0, [], [], []⟩ rfl rfl K.sz_int rfl rfl (by decide) rfl 0 rfl ?_)
                  clear h a w; intro a w h
                  refine wnil ?_
                  refine b_normal ?_
                  exact ⟨(v14, _), h.keep [1, 6], by simp, by rw [← hn2]; exact bd4 hn1⟩
              ·
                refine c_seq (c_region ?_)
                refine wv h (r_bin h rfl rfl (B.eql_u8 (y := 5))) rfl ?_
                clear h a w; intro a w h
                refine wv h (r_assign h rfl) rfl ?_
                clear h a w; intro a w h
                refine wnil (c_then ?_)
                first
                  | refine c_condD h rfl (fun ht8 => ?_) (fun ht8 => ?_)
                  | refine c_condP h rfl (by first | (simp only [Bool.and_eq_true, Bool.or_eq_true, Bool.not_eq_true', decide_eq_true_eq, decide_eq_false_iff_not, ne_eq, Bool.not_eq_eq_eq_not, Bool.not_true, beq_iff_eq, bne_iff_ne]; exact Iff.rfl) | exact Iff.rfl) (fun ht8 => ?_) (fun ht8 => ?_)
                ·
                  as_aux_lemma =>
                    refine c_drawn 12 K.mixed rfl h ?_
                    clear h a w; intro a w h
                    have hD : Paid s w [] := Paid.nil
                    refine d_take0 (listed' := #[true, false, false, false, false, false, false, false, false, false, false, false]) h hD 0 (by as_aux_lemma => kernel_rfl) rfl (by as_aux_lemma => kernel_rfl) (by as_aux_lemma => kernel_rfl) (by as_aux_lemma => kernel_rfl) (fun _ _ _ _ hh => hh) (fun w h => by first | exact r_move h rfl) rfl ?_
                    clear hD h a w; intro a w h hD
                    refine d_take0 (listed' := #[true, true, false, false, false, false, false, false, false, false, false, false]) h hD 1 (by as_aux_lemma => kernel_rfl) rfl (by as_aux_lemma => kernel_rfl) (by as_aux_lemma => kernel_rfl) (by as_aux_lemma => kernel_rfl) (fun _ _ _ _ hh => hh) (fun w h => by first | exact r_move h rfl) rfl ?_
                    clear hD h a w; intro a w h hD
                    refine d_take0 (listed' := #[true, true, true, false, false, false, false, false, false, false, false, false]) h hD 2 (by as_aux_lemma => kernel_rfl) rfl (by as_aux_lemma => kernel_rfl) (by as_aux_lemma => kernel_rfl) (by as_aux_lemma => kernel_rfl) (fun _ _ _ _ hh => hh) (fun w h => by first | exact r_bin h rfl rfl (B.sub_i64 (by omega) (by omega))) rfl ?_
                    clear hD h a w; intro a w h hD
                    rw [show (12 : Int) - (n : Int) = ((12 - n : Nat) : Int) by omega] at h
                    refine d_take0 (listed' := #[true, true, true, true, false, false, false, false, false, false, false, false]) h hD 3 (by as_aux_lemma => kernel_rfl) rfl (by as_aux_lemma => kernel_rfl) (by as_aux_lemma => kernel_rfl) (by as_aux_lemma => kernel_rfl) (fun _ _ _ _ hh => hh) (fun w h => by first | exact r_sliceT (l := twelve) h rfl K.u_string 0 (12 - n) rfl ⟨_, rfl⟩ (by omega) (by show 12 - n ≤ 12; omega)) rfl ?_
                    clear hD h a w; intro a w h hD
                    refine d_take0 (listed' := #[true, true, true, true, true, false, false, false, false, false, false, false]) h hD 4 (by as_aux_lemma => kernel_rfl) rfl (by as_aux_lemma => kernel_rfl) (by as_aux_lemma => kernel_rfl) (by as_aux_lemma => kernel_rfl) (fun _ _ _ _ hh => hh) (fun w h => by first | exact r_move h rfl) rfl ?_
                    clear hD h a w; intro a w h hD
                    refine d_take0 (listed' := #[true, true, true, true, true, true, false, false, false, false, false, false]) h hD 5 (by as_aux_lemma => kernel_rfl) rfl (by as_aux_lemma => kernel_rfl) (by as_aux_lemma => kernel_rfl) (by as_aux_lemma => kernel_rfl) (fun _ _ _ _ hh => hh) (fun w h => by first | exact r_bin h rfl rfl (B.mul_i64 (by omega) (by omega))) rfl ?_
                    clear hD h a w; intro a w h hD
                    rw [show (2 : Int) * (n : Int) = ((2 * n : Nat) : Int) by omega] at h
                    refine d_only (listed' := #[true, true, true, true, true, true, true, false, false, false, false, false]) 6 [] (by as_aux_lemma => kernel_rfl) rfl rfl (by as_aux_lemma => kernel_rfl) (by as_aux_lemma => kernel_rfl) ?_
                    refine op_mkB h K.u_S_uint8 K.sz_uint8 K.z_uint8 rfl rfl (by omega) (by omega) (by first | omega | (simp only [List.length_cons, List.length_nil]; omega) | (simp; done) | (simp; omega)) (by first | omega | (simp only [List.length_cons, List.length_nil]; omega) | (simp; done) | (simp; omega)) rfl rfl ?_
                    clear hD h a w; intro v73 a w h
                    refine d_pay (Paid.nil) (fun hD => ?_)
                    refine d_take (listed' := #[true, true, true, true, true, true, true, true, false, false, false, false]) h hD 7 _ (by as_aux_lemma => kernel_rfl) rfl (by as_aux_lemma => kernel_rfl) (by as_aux_lemma => kernel_rfl) (by as_aux_lemma => kernel_rfl) (fun _ _ _ _ hh => hh) h.2 (fun w hw => by first | exact r_b2sb ⟨h.1, hw⟩ rfl K.u_S_uint8 K.u_uint8 K.u_string (by first | exact ViewsB.own 0 rfl | exact ViewsB.own 1 rfl | exact ViewsB.own 2 rfl | exact ViewsB.own 3 rfl | exact ViewsB.own 4 rfl | exact ViewsB.own 5 rfl | assumption | exact ViewsB.nil _ | exact ViewsB.arr 0 rfl (by first | assumption | rfl | (simp; done)) (Nat.le_refl _) (by simp [maxLen]) | exact ViewsB.arr 1 rfl (by first | assumption | rfl | (simp; done)) (Nat.le_refl _) (by simp [maxLen]) | exact ViewsB.arr 2 rfl (by first | assumption | rfl | (simp; done)) (Nat.le_refl _) (by simp [maxLen]) | exact ViewsB.arr 3 rfl (by first | assumption | rfl | (simp; done)) (Nat.le_refl _) (by simp [maxLen]) | exact ViewsB.arr 4 rfl (by first | assumption | rfl | (simp; done)) (Nat.le_refl _) (by simp [maxLen]) | exact ViewsB.of_drop 1 (by assumption) | exact ViewsB.of_drop 2 (by assumption) | exact ViewsB.of_drop 3 (by assumption) | exact ViewsB.of_drop 4 (by assumption) | exact ViewsB.of_drop 5 (by assumption) | exact ViewsB.of_drop 6 (by assumption) | exact ViewsB.of_drop 7 (by assumption) | exact ViewsB.of_drop 8 (by assumption) | exact ViewsB.of_drop 9 (by assumption) | exact ViewsB.of_drop 10 (by assumption) | exact ViewsB.of_drop 11 (by assumption) | exact ViewsB.of_drop 12 (by assumption) | exact ViewsB.sub (by first | exact ViewsB.own 0 rfl | exact ViewsB.own 1 rfl | exact ViewsB.own 2 rfl | exact ViewsB.own 3 rfl | exact ViewsB.own 4 rfl | exact ViewsB.own 5 rfl | assumption | exact ViewsB.nil _ | exact ViewsB.arr 0 rfl (by first | assumption | rfl | (simp; done)) (Nat.le_refl _) (by simp [maxLen]) | exact ViewsB.arr 1 rfl (by first | assumption | rfl | (simp; done)) (Nat.le_refl _) (by simp [maxLen]) | exact ViewsB.arr 2 rfl (by first | assumption | rfl | (simp; done)) (Nat.le_refl _) (by simp [maxLen]) | exact ViewsB.arr 3 rfl (by first | assumption | rfl | (simp; done)) (Nat.le_refl _) (by simp [maxLen]) | exact ViewsB.arr 4 rfl (by first | assumption | rfl | (simp; done)) (Nat.le_refl _) (by simp [maxLen]) | exact ViewsB.of_drop 1 (by assumption) | exact ViewsB.of_drop 2 (by assumption) | exact ViewsB.of_drop 3 (by assumption) | exact ViewsB.of_drop 4 (by assumption) | exact ViewsB.of_drop 5 (by assumption) | exact ViewsB.of_drop 6 (by assumption) | exact ViewsB.of_drop 7 (by assumption) | exact ViewsB.of_drop 8 (by assumption) | exact ViewsB.of_drop 9 (by assumption) | exact ViewsB.of_drop 10 (by assumption) | exact ViewsB.of_drop 11 (by assumption) | exact ViewsB.of_drop 12 (by assumption)) (by omega) (by first | omega | (simp; done) | (simp; omega)))) rfl ?_
                    clear hD h a w; intro a w h hD
                    refine d_take0 (listed' := #[true, true, true, true, true, true, true, true, true, false, false, false]) h hD 8 (by as_aux_lemma => kernel_rfl) rfl (by as_aux_lemma => kernel_rfl) (by as_aux_lemma => kernel_rfl) (by as_aux_lemma => kernel_rfl) (fun _ _ _ _ hh => hh) (fun w h => by first | exact r_strcat h rfl rfl (by first | omega | (simp only [List.length_cons, List.length_nil]; omega) | (simp; done) | (simp; omega))) rfl ?_
                    clear hD h a w; intro a w h hD
                    refine d_take0 (listed' := #[true, true, true, true, true, true, true, true, true, true, false, false]) h hD 9 (by as_aux_lemma => kernel_rfl) rfl (by as_aux_lemma => kernel_rfl) (by as_aux_lemma => kernel_rfl) (by as_aux_lemma => kernel_rfl) (fun _ _ _ _ hh => hh) (fun w h => by first | exact r_idx h rfl rfl K.u_api_Chart K.sz_api_Elem hv14 0 rfl (by decide)) rfl ?_
                    clear hD h a w; intro a w h hD
                    refine d_take0 (listed' := #[true, true, true, true, true, true, true, true, true, true, true, false]) h hD 10 (by as_aux_lemma => kernel_rfl) rfl (by as_aux_lemma => kernel_rfl) (by as_aux_lemma => kernel_rfl) (by as_aux_lemma => kernel_rfl) (fun _ _ _ _ hh => hh) (fun w h => by first | exact r_fieldAddr h 4 rfl K.u_api_Elem rfl K.sz_string rfl rfl) rfl ?_
                    clear hD h a w; intro a w h hD
                    refine d_only (listed' := #[true, true, true, true, true, true, true, true, true, true, true, true]) 11 [false] (by as_aux_lemma => kernel_rfl) rfl rfl (by as_aux_lemma => kernel_rfl) (by as_aux_lemma => kernel_rfl) ?_
                    refine (op_storeRf (cells := cellsE) (l := [mkI 1 255]) h ⟨1, 255, 0, 0, (twelve.drop 0).take (12 - n - 0) ++ List.replicate (2 * n) 0, 0, 0, [], [], []⟩ (j := 0) (off := 4) (v := v14) (by rw [hv14]; rfl) rfl K.sz_string rfl rfl (by decide) rfl 1 rfl ?_)
                    clear hD h a w; intro a w h
                    (try simp only [List.set_cons_zero, List.set_cons_succ] at h)
                    refine d_pay (Paid.nil) (fun hD => ?_)
                    refine d_done (by kernel_rfl) ?_
                    clear hD
                    refine b_normal ?_
                    exact ⟨(v14, _), ⟨(h.keep [1, 6]).1, h.2.drop 1⟩, by simp, by rw [← hn2]; exact bd5 hn1⟩
                ·
                  refine c_seq (c_region ?_)
                  refine wv h (r_bin h rfl rfl (B.eql_u8 (y := 6))) rfl ?_
                  clear h a w; intro a w h
                  refine wv h (r_assign h rfl) rfl ?_
                  clear h a w; intro a w h
                  refine wnil (c_then ?_)
                  first
                    | refine c_condD h rfl (fun ht9 => ?_) (fun ht9 => ?_)
                    | refine c_condP h rfl (by first | (simp only [Bool.and_eq_true, Bool.or_eq_true, Bool.not_eq_true', decide_eq_true_eq, decide_eq_false_iff_not, ne_eq, Bool.not_eq_eq_eq_not, Bool.not_true, beq_iff_eq, bne_iff_ne]; exact Iff.rfl) | exact Iff.rfl) (fun ht9 => ?_) (fun ht9 => ?_)
                  ·
                    as_aux_lemma =>
                      refine c_region ?_
                      refine wv h (r_move h rfl) rfl ?_
                      clear h a w; intro a w h
                      refine wv h (r_move h rfl) rfl ?_
                      clear h a w; intro a w h
                      refine wl rfl (op_mkB h K.u_S_uint8 K.sz_uint8 K.z_uint8 rfl rfl (by omega) (by omega) (by first | omega | (simp only [List.length_cons, List.length_nil]; omega) | (simp; done) | (simp; omega)) (by first | omega | (simp only [List.length_cons, List.length_nil]; omega) | (simp; done) | (simp; omega)) rfl rfl ?_)
                      clear h a w; intro v82 a w h
                      refine wv h (r_b2sb h rfl K.u_S_uint8 K.u_uint8 K.u_string (by first | exact ViewsB.own 0 rfl | exact ViewsB.own 1 rfl | exact ViewsB.own 2 rfl | exact ViewsB.own 3 rfl | exact ViewsB.own 4 rfl | exact ViewsB.own 5 rfl | assumption | exact ViewsB.nil _ | exact ViewsB.arr 0 rfl (by first | assumption | rfl | (simp; done)) (Nat.le_refl _) (by simp [maxLen]) | exact ViewsB.arr 1 rfl (by first | assumption | rfl | (simp; done)) (Nat.le_refl _) (by simp [maxLen]) | exact ViewsB.arr 2 rfl (by first | assumption | rfl | (simp; done)) (Nat.le_refl _) (by simp [maxLen]) | exact ViewsB.arr 3 rfl (by first | assumption | rfl | (simp; done)) (Nat.le_refl _) (by simp [maxLen]) | exact ViewsB.arr 4 rfl (by first | assumption | rfl | (simp; done)) (Nat.le_refl _) (by simp [maxLen]) | exact ViewsB.of_drop 1 (by assumption) | exact ViewsB.of_drop 2 (by assumption) | exact ViewsB.of_drop 3 (by assumption) | exact ViewsB.of_drop 4 (by assumption) | exact ViewsB.of_drop 5 (by assumption) | exact ViewsB.of_drop 6 (by assumption) | exact ViewsB.of_drop 7 (by assumption) | exact ViewsB.of_drop 8 (by assumption) | exact ViewsB.of_drop 9 (by assumption) | exact ViewsB.of_drop 10 (by assumption) | exact ViewsB.of_drop 11 (by assumption) | exact ViewsB.of_drop 12 (by assumption) | exact ViewsB.sub (by first | exact ViewsB.own 0 rfl | exact ViewsB.own 1 rfl | exact ViewsB.own 2 rfl | exact ViewsB.own 3 rfl | exact ViewsB.own 4 rfl | exact ViewsB.own 5 rfl | assumption | exact ViewsB.nil _ | exact ViewsB.arr 0 rfl (by first | assumption | rfl | (simp; done)) (Nat.le_refl _) (by simp [maxLen]) | exact ViewsB.arr 1 rfl (by first | assumption | rfl | (simp; done)) (Nat.le_refl _) (by simp [maxLen]) | exact ViewsB.arr 2 rfl (by first | assumption | rfl | (simp; done)) (Nat.le_refl _) (by simp [maxLen]) | exact ViewsB.arr 3 rfl (by first | assumption | rfl | (simp; done)) (Nat.le_refl _) (by simp [maxLen]) | exact ViewsB.arr 4 rfl (by first | assumption | rfl | (simp; done)) (Nat.le_refl _) (by simp [maxLen]) | exact ViewsB.of_drop 1 (by assumption) | exact ViewsB.of_drop 2 (by assumption) | exact ViewsB.of_drop 3 (by assumption) | exact ViewsB.of_drop 4 (by assumption) | exact ViewsB.of_drop 5 (by assumption) | exact ViewsB.of_drop 6 (by assumption) | exact ViewsB.of_drop 7 (by assumption) | exact ViewsB.of_drop 8 (by assumption) | exact ViewsB.of_drop 9 (by assumption) | exact ViewsB.of_drop 10 (by assumption) | exact ViewsB.of_drop 11 (by assumption) | exact ViewsB.of_drop 12 (by assumption)) (by omega) (by first | omega | (simp; done) | (simp; omega)))) rfl ?_
                      clear h a w; intro a w h
                      refine wv h (r_strcat h rfl rfl (by first | omega | (simp only [List.length_cons, List.length_nil]; omega) | (simp; done) | (simp; omega))) rfl ?_
                      clear h a w; intro a w h
                      refine wv h (r_elP h rfl rfl K.u_api_Chart K.sz_api_Elem (by first | exact Views.own 0 rfl | exact Views.own 1 rfl | exact Views.own 2 rfl | exact Views.own 3 rfl | exact Views.own 4 rfl | exact Views.own 5 rfl | assumption | exact Views.of_drop 1 (by assumption) | exact Views.of_drop 2 (by assumption) | exact Views.of_drop 3 (by assumption) | exact Views.of_drop 4 (by assumption) | exact Views.of_drop 5 (by assumption) | exact Views.of_drop 6 (by assumption) | exact Views.of_drop 7 (by assumption) | exact Views.of_drop 8 (by assumption) | exact Views.of_drop 9 (by assumption) | exact Views.of_drop 10 (by assumption) | exact Views.of_drop 11 (by assumption) | exact Views.of_drop 12 (by assumption)) (by first | omega | (simp; done)) (by first | omega | (simp only [List.length_cons, List.length_nil]; omega) | (simp; done) | (simp; omega))) rfl ?_
                      clear h a w; intro a w h
                      refine wv h (r_elF h 9 rfl K.u_api_Elem rfl K.sz_string rfl rfl (by first | exact Views.own 0 rfl | exact Views.own 1 rfl | exact Views.own 2 rfl | exact Views.own 3 rfl | exact Views.own 4 rfl | exact Views.own 5 rfl | assumption | exact Views.of_drop 1 (by assumption) | exact Views.of_drop 2 (by assumption) | exact Views.of_drop 3 (by assumption) | exact Views.of_drop 4 (by assumption) | exact Views.of_drop 5 (by assumption) | exact Views.of_drop 6 (by assumption) | exact Views.of_drop 7 (by assumption) | exact Views.of_drop 8 (by assumption) | exact Views.of_drop 9 (by assumption) | exact Views.of_drop 10 (by assumption) | exact Views.of_drop 11 (by assumption) | exact Views.of_drop 12 (by assumption)) (by first | omega | (simp only [List.length_cons, List.length_nil]; omega) | (simp; done) | (simp; omega))) rfl ?_
                      clear h a w; intro a w h
                      refine wl rfl (op_storeRf (cells := cellsE) (l := [mkI 1 255]) h ⟨1, 255, 0, 0, [], 0, 0, [], [], twelve ++ List.replicate n 0⟩ rfl rfl K.sz_string rfl rfl (by decide) rfl 1 rfl ?_)
                      clear h a w; intro a w h
                      refine wnil ?_
                      refine b_normal ?_
                      exact ⟨(v14, _), ⟨(h.keep [1, 6]).1, h.2.drop 1⟩, by simp, by rw [← hn2]; exact bd6 hn1⟩
                  ·
                    refine c_region ?_
                    refine wv h (r_move h rfl) rfl ?_
                    clear h a w; intro a w h
                    refine wv h (r_move h rfl) rfl ?_
                    clear h a w; intro a w h
                    refine wv h (r_bin h rfl rfl (B.sub_i64 (by omega) (by omega))) rfl ?_
                    clear h a w; intro a w h
                    refine wv h (r_build (cells := ⟨cellsE (mkI (2 - (n : Int)) 0)⟩) h K.u_api_Elem K.z_api_Elem K.pl_api_Elem rfl (by kernel_rfl)) rfl ?_
                    clear h a w; intro a w h
                    refine wl rfl (op_build1 h K.u_api_Chart K.sz_api_Elem K.z_api_Elem rfl rfl rfl (by first | exact Row.len _ | rfl | assumption | (simp; done) | (simp; omega) | omega) rfl ?_)
                    clear h a w; intro b21 a w h
                    first
                      | (refine wl rfl (op_appendR1 h rfl rfl K.u_api_Chart K.sz_api_Elem K.z_api_Elem rfl rfl 0 rfl (by first | omega | (simp only [List.length_cons, List.length_nil]; omega) | (simp; done) | (simp; omega)) rfl ?_))
                      | (refine wl rfl (op_appendR1 h rfl rfl K.u_api_Chart K.sz_api_Elem K.z_api_Elem rfl rfl 1 rfl (by first | omega | (simp only [List.length_cons, List.length_nil]; omega) | (simp; done) | (simp; omega)) rfl ?_))
                      | (refine wl rfl (op_appendR1 h rfl rfl K.u_api_Chart K.sz_api_Elem K.z_api_Elem rfl rfl 2 rfl (by first | omega | (simp only [List.length_cons, List.length_nil]; omega) | (simp; done) | (simp; omega)) rfl ?_))
                      | (refine wl rfl (op_appendR1 h rfl rfl K.u_api_Chart K.sz_api_Elem K.z_api_Elem rfl rfl 3 rfl (by first | omega | (simp only [List.length_cons, List.length_nil]; omega) | (simp; done) | (simp; omega)) rfl ?_))
                      | (refine wl rfl (op_appendR1 h rfl rfl K.u_api_Chart K.sz_api_Elem K.z_api_Elem rfl rfl 4 rfl (by first | omega | (simp only [List.length_cons, List.length_nil]; omega) | (simp; done) | (simp; omega)) rfl ?_))
                      | (refine wl rfl (op_appendR1 h rfl rfl K.u_api_Chart K.sz_api_Elem K.z_api_Elem rfl rfl 5 rfl (by first | omega | (simp only [List.length_cons, List.length_nil]; omega) | (simp; done) | (simp; omega)) rfl ?_))
                    clear h a w; intro v22 a w h
                    (try simp only [List.set_cons_zero, List.set_cons_succ] at h)
                    refine wv h (r_assign h rfl) rfl ?_
                    clear h a w; intro a w h
                    refine wnil ?_
                    refine b_normal ?_
                    exact ⟨(v22, _), h.keep [1, 6], by simp, by rw [← hn2]; exact bd7 hn1⟩
    ·
      clear h a w; intro z a w hz h
      obtain ⟨cv, c⟩ := z
      obtain ⟨hz1, hz2⟩ := hz
      dsimp only at hz1 hz2 h
      have hel := encR_len c
      refine c_seq (c_region ?_)
      refine wv h (r_move h rfl) rfl ?_
      clear h a w; intro a w h
      refine wl rfl (op_call h rfl K.go_wire_Encode (wire_Encode s _ cv c _ (by first | exact Views.own 0 rfl | exact Views.own 1 rfl | exact Views.own 2 rfl | exact Views.own 3 rfl | exact Views.own 4 rfl | exact Views.own 5 rfl | assumption | exact Views.of_drop 1 (by assumption) | exact Views.of_drop 2 (by assumption) | exact Views.of_drop 3 (by assumption) | exact Views.of_drop 4 (by assumption) | exact Views.of_drop 5 (by assumption) | exact Views.of_drop 6 (by assumption) | exact Views.of_drop 7 (by assumption) | exact Views.of_drop 8 (by assumption) | exact Views.of_drop 9 (by assumption) | exact Views.of_drop 10 (by assumption) | exact Views.of_drop 11 (by assumption) | exact Views.of_drop 12 (by assumption)) h.2) rfl ?_)
      clear h a w; intro v89 a w hx h
      (try simp only [List.set_cons_zero, List.set_cons_succ] at h)
      refine wv h (r_move h rfl) rfl ?_
      clear h a w; intro a w h
      refine wv h (r_extractN h rfl rfl) rfl ?_
      clear h a w; intro a w h
      refine wv h (r_extractN h rfl rfl) rfl ?_
      clear h a w; intro a w h
      refine wv h (r_assign h rfl) rfl ?_
      clear h a w; intro a w h
      refine wv h (r_assign h rfl) rfl ?_
      clear h a w; intro a w h
      refine wnil (c_then ?_)
      refine c_seq (c_region ?_)
      refine wv h (r_move h rfl) rfl ?_
      clear h a w; intro a w h
      refine wl rfl (op_call h rfl K.go_wire_Decode (wire_Decode s _ v89 (encR c) _ (by omega) (by first | exact ViewsB.own 0 rfl | exact ViewsB.own 1 rfl | exact ViewsB.own 2 rfl | exact ViewsB.own 3 rfl | exact ViewsB.own 4 rfl | exact ViewsB.own 5 rfl | assumption | exact ViewsB.nil _ | exact ViewsB.arr 0 rfl (by first | assumption | rfl | (simp; done)) (Nat.le_refl _) (by simp [maxLen]) | exact ViewsB.arr 1 rfl (by first | assumption | rfl | (simp; done)) (Nat.le_refl _) (by simp [maxLen]) | exact ViewsB.arr 2 rfl (by first | assumption | rfl | (simp; done)) (Nat.le_refl _) (by simp [maxLen]) | exact ViewsB.arr 3 rfl (by first | assumption | rfl | (simp; done)) (Nat.le_refl _) (by simp [maxLen]) | exact ViewsB.arr 4 rfl (by first | assumption | rfl | (simp; done)) (Nat.le_refl _) (by simp [maxLen]) | exact ViewsB.of_drop 1 (by assumption) | exact ViewsB.of_drop 2 (by assumption) | exact ViewsB.of_drop 3 (by assumption) | exact ViewsB.of_drop 4 (by assumption) | exact ViewsB.of_drop 5 (by assumption) | exact ViewsB.of_drop 6 (by assumption) | exact ViewsB.of_drop 7 (by assumption) | exact ViewsB.of_drop 8 (by assumption) | exact ViewsB.of_drop 9 (by assumption) | exact ViewsB.of_drop 10 (by assumption) | exact ViewsB.of_drop 11 (by assumption) | exact ViewsB.of_drop 12 (by assumption) | exact ViewsB.sub (by first | exact ViewsB.own 0 rfl | exact ViewsB.own 1 rfl | exact ViewsB.own 2 rfl | exact ViewsB.own 3 rfl | exact ViewsB.own 4 rfl | exact ViewsB.own 5 rfl | assumption | exact ViewsB.nil _ | exact ViewsB.arr 0 rfl (by first | assumption | rfl | (simp; done)) (Nat.le_refl _) (by simp [maxLen]) | exact ViewsB.arr 1 rfl (by first | assumption | rfl | (simp; done)) (Nat.le_refl _) (by simp [maxLen]) | exact ViewsB.arr 2 rfl (by first | assumption | rfl | (simp; done)) (Nat.le_refl _) (by simp [maxLen]) | exact ViewsB.arr 3 rfl (by first | assumption | rfl | (simp; done)) (Nat.le_refl _) (by simp [maxLen]) | exact ViewsB.arr 4 rfl (by first | assumption | rfl | (simp; done)) (Nat.le_refl _) (by simp [maxLen]) | exact ViewsB.of_drop 1 (by assumption) | exact ViewsB.of_drop 2 (by assumption) | exact ViewsB.of_drop 3 (by assumption) | exact ViewsB.of_drop 4 (by assumption) | exact ViewsB.of_drop 5 (by assumption) | exact ViewsB.of_drop 6 (by assumption) | exact ViewsB.of_drop 7 (by assumption) | exact ViewsB.of_drop 8 (by assumption) | exact ViewsB.of_drop 9 (by assumption) | exact ViewsB.of_drop 10 (by assumption) | exact ViewsB.of_drop 11 (by assumption) | exact ViewsB.of_drop 12 (by assumption)) (by omega) (by first | omega | (simp; done) | (simp; omega))) h.2) rfl ?_)
      clear h a w; intro x94 a w hx94 h
      (try simp only [List.set_cons_zero, List.set_cons_succ] at h)
      obtain ⟨v94, e94, d94⟩ := x94
      dsimp only at hx94 h
      refine wv h (r_move h rfl) rfl ?_
      clear h a w; intro a w h
      refine wv h (r_extractN h rfl rfl) rfl ?_
      clear h a w; intro a w h
      refine wv h (r_extractN h rfl rfl) rfl ?_
      clear h a w; intro a w h
      refine wv h (r_assign h rfl) rfl ?_
      clear h a w; intro a w h
      refine wv h (r_assign h rfl) rfl ?_
      clear h a w; intro a w h
      refine wnil (c_then ?_)
      refine c_seq ?_
      refine c_seq (c_region ?_)
      refine wv h (r_move h rfl) rfl ?_
      clear h a w; intro a w h
      refine wnil (c_then ?_)
      first
        | refine c_condD h rfl (fun ht10 => ?_) (fun ht10 => ?_)
        | refine c_condP h rfl (by first | (simp only [Bool.and_eq_true, Bool.or_eq_true, Bool.not_eq_true', decide_eq_true_eq, decide_eq_false_iff_not, ne_eq, Bool.not_eq_eq_eq_not, Bool.not_true, beq_iff_eq, bne_iff_ne]; exact Iff.rfl) | exact Iff.rfl) (fun ht10 => ?_) (fun ht10 => ?_)
      ·
        have hrb : rightB c = false := by rw [hz2, ht10]; rfl
        rw [eEnc_f hrb, encR_f hrb] at h
        as_aux_lemma =>
          refine c_seq (c_region ?_)
          refine wl rfl (op_call h rfl K.go_law10_awake (awake10 s _ _ h.2) rfl ?_)
          clear h a w; intro x a w hx h
          (try simp only [List.set_cons_zero, List.set_cons_succ] at h)
          refine wv h (r_move h rfl) rfl ?_
          clear h a w; intro a w h
          refine wvG h (by first | exact .t rfl | exact .f rfl | exact .gt rfl | exact .gf rfl) (fun hg => by (try simp only [↓gval_on hg, ↓gval_and hg] at h); (have hg2 := hg; (try simp only [Bool.and_eq_true, Bool.or_eq_true, Bool.not_eq_true', decide_eq_true_eq, decide_eq_false_iff_not] at hg2)); first | exact r_move h rfl) rfl ?_
          clear h a w; intro a w h
          refine wcG h (by first | exact .t rfl | exact .f rfl | exact .gt rfl | exact .gf rfl) K.go_wire_Right (fun hg => by (try simp only [↓gval_on hg, ↓gval_and hg]); (have hg2 := hg; (try simp only [Bool.and_eq_true, Bool.or_eq_true, Bool.not_eq_true', decide_eq_true_eq, decide_eq_false_iff_not] at hg2)); exact ⟨_, rfl, wire_Right s _ cv c _ (Views.own 2 rfl) h.2⟩) rfl ?_
          clear h a w; intro a w h
          refine wvG h (by first | exact .t rfl | exact .f rfl | exact .gt rfl | exact .gf rfl) (fun hg => by (try simp only [↓gval_on hg, ↓gval_and hg] at h); (have hg2 := hg; (try simp only [Bool.and_eq_true, Bool.or_eq_true, Bool.not_eq_true', decide_eq_true_eq, decide_eq_false_iff_not] at hg2)); first | exact r_not h rfl) rfl ?_
          clear h a w; intro a w h
          first
            | (refine wv h (r_pickA h rfl rfl rfl) rfl ?_)
            | (refine wv h (r_pickO h rfl rfl rfl) rfl ?_)
            | (refine wv h (r_pick_true h rfl rfl) rfl ?_)
            | (refine wv h (r_pick_false h rfl rfl) rfl ?_)
            | (refine wv h (r_pick h rfl rfl rfl) rfl ?_)
          clear h a w; intro a w h
          refine wv h (r_move h rfl) rfl ?_
          clear h a w; intro a w h
          refine wvG h (by first | exact .t rfl | exact .f rfl | exact .gt rfl | exact .gf rfl) (fun hg => by (try simp only [↓gval_on hg, ↓gval_and hg] at h); (have hg2 := hg; (try simp only [Bool.and_eq_true, Bool.or_eq_true, Bool.not_eq_true', decide_eq_true_eq, decide_eq_false_iff_not] at hg2)); first | exact r_move h rfl) rfl ?_
          clear h a w; intro a w h
          refine wvG h (by first | exact .t rfl | exact .f rfl | exact .gt rfl | exact .gf rfl) (fun hg => by (try simp only [↓gval_on hg, ↓gval_and hg] at h); (have hg2 := hg; (try simp only [Bool.and_eq_true, Bool.or_eq_true, Bool.not_eq_true', decide_eq_true_eq, decide_eq_false_iff_not] at hg2)); first | exact r_bin h rfl rfl (B.eql_int)) rfl ?_
          clear h a w; intro a w h
          first
            | (refine wv h (r_pickA h rfl rfl rfl) rfl ?_)
            | (refine wv h (r_pickO h rfl rfl rfl) rfl ?_)
            | (refine wv h (r_pick_true h rfl rfl) rfl ?_)
            | (refine wv h (r_pick_false h rfl rfl) rfl ?_)
            | (refine wv h (r_pick h rfl rfl rfl) rfl ?_)
          clear h a w; intro a w h
          refine wv h (r_assign h rfl) rfl ?_
          clear h a w; intro a w h
          refine wnil (c_then ?_)
          refine c_ret ?_
          exact ret1 h rfl rfl ⟨(), ret_true (by rw [hrb]; rfl), (by first | exact h.2 | exact h.2.drop 1 | exact h.2.drop 2 | exact h.2.drop 3 | exact h.2.drop 4 | exact h.2.drop 5 | exact h.2.drop 6 | exact h.2.drop 7 | exact h.2.drop 8 | exact h.2.drop 9 | exact h.2.drop 10 | exact h.2.drop 11 | exact h.2.drop 12 | exact h.2.drop 13 | exact h.2.drop 14 | exact h.2.drop 15 | exact h.2.drop 16), trivial⟩
      ·
        have hrb : rightB c = true := by rw [hz2, show more = false by simpa using ht10]; rfl
        have hx3 := hx94.2 c ((rightB_iff c).1 hrb) (encR_t hrb)
        rw [eEnc_t hrb, encR_t hrb, hx3.1, hx3.2] at h
        refine c_skip ?_
        refine c_then ?_
        refine c_seq (c_region ?_)
        refine wl rfl (op_call h rfl K.go_law10_awake (awake10 s _ _ h.2) rfl ?_)
        clear h a w; intro x a w hx h
        (try simp only [List.set_cons_zero, List.set_cons_succ] at h)
        refine wv h (r_move h rfl) rfl ?_
        clear h a w; intro a w h
        refine wvG h (by first | exact .t rfl | exact .f rfl | exact .gt rfl | exact .gf rfl) (fun hg => by (try simp only [↓gval_on hg, ↓gval_and hg] at h); (have hg2 := hg; (try simp only [Bool.and_eq_true, Bool.or_eq_true, Bool.not_eq_true', decide_eq_true_eq, decide_eq_false_iff_not] at hg2)); first | exact r_move h rfl) rfl ?_
        clear h a w; intro a w h
        refine wcG h (by first | exact .t rfl | exact .f rfl | exact .gt rfl | exact .gf rfl) K.go_wire_Right (fun hg => by (try simp only [↓gval_on hg, ↓gval_and hg]); (have hg2 := hg; (try simp only [Bool.and_eq_true, Bool.or_eq_true, Bool.not_eq_true', decide_eq_true_eq, decide_eq_false_iff_not] at hg2)); exact ⟨_, rfl, wire_Right s _ cv c _ (Views.own 2 rfl) h.2⟩) rfl ?_
        clear h a w; intro a w h
        first
          | (refine wv h (r_pickA h rfl rfl rfl) rfl ?_)
          | (refine wv h (r_pickO h rfl rfl rfl) rfl ?_)
          | (refine wv h (r_pick_true h rfl rfl) rfl ?_)
          | (refine wv h (r_pick_false h rfl rfl) rfl ?_)
          | (refine wv h (r_pick h rfl rfl rfl) rfl ?_)
        clear h a w; intro a w h
        refine wv h (r_move h rfl) rfl ?_
        clear h a w; intro a w h
        refine wvG h (by first | exact .t rfl | exact .f rfl | exact .gt rfl | exact .gf rfl) (fun hg => by (try simp only [↓gval_on hg, ↓gval_and hg] at h); (have hg2 := hg; (try simp only [Bool.and_eq_true, Bool.or_eq_true, Bool.not_eq_true', decide_eq_true_eq, decide_eq_false_iff_not] at hg2)); first | exact r_move h rfl) rfl ?_
        clear h a w; intro a w h
        refine wvG h (by first | exact .t rfl | exact .f rfl | exact .gt rfl | exact .gf rfl) (fun hg => by (try simp only [↓gval_on hg, ↓gval_and hg] at h); (have hg2 := hg; (try simp only [Bool.and_eq_true, Bool.or_eq_true, Bool.not_eq_true', decide_eq_true_eq, decide_eq_false_iff_not] at hg2)); first | exact r_bin h rfl rfl (B.eql_int)) rfl ?_
        clear h a w; intro a w h
        first
          | (refine wv h (r_pickA h rfl rfl rfl) rfl ?_)
          | (refine wv h (r_pickO h rfl rfl rfl) rfl ?_)
          | (refine wv h (r_pick_true h rfl rfl) rfl ?_)
          | (refine wv h (r_pick_false h rfl rfl) rfl ?_)
          | (refine wv h (r_pick h rfl rfl rfl) rfl ?_)
        clear h a w; intro a w h
        refine wv h (r_move h rfl) rfl ?_
        clear h a w; intro a w h
        refine wvG h (by first | exact .t rfl | exact .f rfl | exact .gt rfl | exact .gf rfl) (fun hg => by (try simp only [↓gval_on hg, ↓gval_and hg] at h); (have hg2 := hg; (try simp only [Bool.and_eq_true, Bool.or_eq_true, Bool.not_eq_true', decide_eq_true_eq, decide_eq_false_iff_not] at hg2)); first | exact r_move h rfl) rfl ?_
        clear h a w; intro a w h
        refine wvG h (by first | exact .t rfl | exact .f rfl | exact .gt rfl | exact .gf rfl) (fun hg => by (try simp only [↓gval_on hg, ↓gval_and hg] at h); (have hg2 := hg; (try simp only [Bool.and_eq_true, Bool.or_eq_true, Bool.not_eq_true', decide_eq_true_eq, decide_eq_false_iff_not] at hg2)); first | exact r_bin h rfl rfl (B.eql_int)) rfl ?_
        clear h a w; intro a w h
        first
          | (refine wv h (r_pickA h rfl rfl rfl) rfl ?_)
          | (refine wv h (r_pickO h rfl rfl rfl) rfl ?_)
          | (refine wv h (r_pick_true h rfl rfl) rfl ?_)
          | (refine wv h (r_pick_false h rfl rfl) rfl ?_)
          | (refine wv h (r_pick h rfl rfl rfl) rfl ?_)
        clear h a w; intro a w h
        refine wv h (r_move h rfl) rfl ?_
        clear h a w; intro a w h
        refine wvG h (by first | exact .t rfl | exact .f rfl | exact .gt rfl | exact .gf rfl) (fun hg => by (try simp only [↓gval_on hg, ↓gval_and hg] at h); (have hg2 := hg; (try simp only [Bool.and_eq_true, Bool.or_eq_true, Bool.not_eq_true', decide_eq_true_eq, decide_eq_false_iff_not] at hg2)); first | exact r_move h rfl) rfl ?_
        clear h a w; intro a w h
        refine wvG h (by first | exact .t rfl | exact .f rfl | exact .gt rfl | exact .gf rfl) (fun hg => by (try simp only [↓gval_on hg, ↓gval_and hg] at h); (have hg2 := hg; (try simp only [Bool.and_eq_true, Bool.or_eq_true, Bool.not_eq_true', decide_eq_true_eq, decide_eq_false_iff_not] at hg2)); first | exact r_move h rfl) rfl ?_
        clear h a w; intro a w h
        refine wcG h (by first | exact .t rfl | exact .f rfl | exact .gt rfl | exact .gf rfl) K.go_ref09_Same (fun hg => by (try simp only [↓gval_on hg, ↓gval_and hg]); (have hg2 := hg; (try simp only [Bool.and_eq_true, Bool.or_eq_true, Bool.not_eq_true', decide_eq_true_eq, decide_eq_false_iff_not] at hg2)); exact ⟨_, rfl, ref09_Same s _ cv v94 c c _ (Views.own 2 rfl) (Views.own 0 rfl) h.2⟩) rfl ?_
        clear h a w; intro a w h
        first
          | (refine wv h (r_pickA h rfl rfl rfl) rfl ?_)
          | (refine wv h (r_pickO h rfl rfl rfl) rfl ?_)
          | (refine wv h (r_pick_true h rfl rfl) rfl ?_)
          | (refine wv h (r_pick_false h rfl rfl) rfl ?_)
          | (refine wv h (r_pick h rfl rfl rfl) rfl ?_)
        clear h a w; intro a w h
        refine wv h (r_assign h rfl) rfl ?_
        clear h a w; intro a w h
        refine wnil (c_then ?_)
        refine c_ret ?_
        exact ret1 h rfl rfl ⟨(), ret_true (by rw [hrb]; simp), (by first | exact h.2 | exact h.2.drop 1 | exact h.2.drop 2 | exact h.2.drop 3 | exact h.2.drop 4 | exact h.2.drop 5 | exact h.2.drop 6 | exact h.2.drop 7 | exact h.2.drop 8 | exact h.2.drop 9 | exact h.2.drop 10 | exact h.2.drop 11 | exact h.2.drop 12 | exact h.2.drop 13 | exact h.2.drop 14 | exact h.2.drop 15 | exact h.2.drop 16), trivial⟩
end Go.Proofs.K
