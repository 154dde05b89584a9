/- The laws of layer 11, walked: states beside one another; states with regions. -/
import Derived.Test.YtckdkncmkpoghaaRulesc
set_option linter.unusedVariables false
set_option linter.unusedSimpArgs false
set_option maxRecDepth 10000
set_option maxHeartbeats 2000000
namespace Go.Proofs.K
open Go.Sl
attribute [local irreducible] Go.Sl.Own Go.Sl.Blk Go.Sl.Sep Go.Sl.Ex Go.Sl.Fact

abbrev fD (a b : Int) : Array Value := ⟨[.int .i64 a, .int .i64 b]⟩
def besE (i p : Int) (a : List UInt8) : El := ⟨i, 1, p, 0, a, 0, 0, [], [], []⟩
def besR (a b : List UInt8) (p : Int) : List El := [besE 1 0 [116, 111, 112], besE 2 1 a, besE 3 p b]
theorem bes_right {a b : List UInt8} {p : Int} (ha : a.length ≤ 12) (hb : b.length ≤ 12) (hp : p = 1 ∨ p = 2) : rightB (besR a b p) = true := by
  rcases hp with rfl | rfl <;> simp [rightB, besR, besE, okB, risesB, ha, hb]
theorem bes_check {a b : List UInt8} {p : Int} (ha : a.length ≤ 12) (hb : b.length ≤ 12) (hp : p = 1 ∨ p = 2) :
    checkR (besR a b p) = if a = [] then (3, 2) else if b = [] then (3, 3) else if a = b ∧ p = 1 then (3, 2) else (0, 0) := by
  have h1 := bes_right ha hb hp
  have h2 : hitE (besR a b p) 2 (besR a b p) = none := by
    rcases hp with rfl | rfl <;> simp [besR, besE, hitE, brkE, brk2, endsE]
  have h3 : hitE (besR a b p) 3 (besR a b p) = if a = [] then some 2 else if a = b ∧ p = 1 then some 2 else if b = [] then some 3 else none := by
    by_cases q1 : a = []
    · rw [if_pos q1]; subst q1
      rcases hp with rfl | rfl <;> simp [besR, besE, hitE, brkE, brk3, hit3, namedE]
    · rw [if_neg q1]
      by_cases q2 : b = []
      · subst q2
        rw [if_neg (fun q => q1 q.1), if_pos rfl]
        rcases hp with rfl | rfl <;> simp [besR, besE, hitE, brkE, brk3, hit3, namedE, q1, Ne.symm q1]
      · by_cases q3 : a = b
        · subst q3
          rcases hp with rfl | rfl <;> simp [besR, besE, hitE, brkE, brk3, hit3, namedE, q1]
        · have q4 : ¬ b = a := fun q => q3 q.symm
          rcases hp with rfl | rfl <;> simp [besR, besE, hitE, brkE, brk3, hit3, namedE, q1, q2, q3, q4]
  have h4 : hitE (besR a b p) 4 (besR a b p) = none := by
    rcases hp with rfl | rfl <;> simp [besR, besE, hitE, brkE, brk4, kindE, findE]
  have h5 : hitE (besR a b p) 5 (besR a b p) = none := by
    rcases hp with rfl | rfl <;> simp [besR, besE, hitE, brkE, brk5, ringE, findE]
  have h6 : hitE (besR a b p) 6 (besR a b p) = none := by simp [besR, besE, hitE, brkE, brk6]
  have h7 : hitE (besR a b p) 7 (besR a b p) = none := by simp [besR, besE, hitE, brkE, brk7, hit7]
  have h8 : hitE (besR a b p) 8 (besR a b p) = none := by simp [besR, besE, hitE, brkE, brk8]
  rw [checkR, if_pos h1, checkL, h2]
  simp only []
  rw [checkL, h3]
  by_cases q1 : a = []
  · rw [if_pos q1, if_pos q1]; rfl
  · rw [if_neg q1, if_neg q1]
    by_cases q2 : b = []
    · rw [if_pos q2, if_neg (fun q => q1 (by rw [q.1, q2])), if_pos q2]; rfl
    · have e2 : (if b = [] then ((3 : Int), (3 : Int)) else if a = b ∧ p = 1 then (3, 2) else (0, 0)) = if a = b ∧ p = 1 then (3, 2) else (0, 0) := if_neg q2
      rw [e2]
      by_cases q3 : a = b ∧ p = 1
      · rw [if_pos q3, if_pos q3]; rfl
      · rw [if_neg q3, if_neg q3, if_neg q2]
        simp only []
        rw [checkL, h4]
        simp only []
        rw [checkL, h5]
        simp only []
        rw [checkL, h6]
        simp only []
        rw [checkL, h7]
        simp only []
        rw [checkL, h8]
        rfl

theorem rulesBeside (s w : World) (a b : List UInt8) (inn : Bool) (F : List HItem) (ha0 : a.length ≤ maxLen) (hb0 : b.length ≤ maxLen) (hs : Sat s w F) :
    Calls P n_law11_RulesBeside #[sv a, sv b, .bool inn] w (Ret s (fun _ : Unit => .bool true) (fun _ => F) (fun _ => True)) := by
  obtain ⟨ta, hta⟩ : ∃ t, t = a := ⟨_, rfl⟩
  obtain ⟨tb, htb⟩ : ∃ t, t = b := ⟨_, rfl⟩
  rw [← hta] at ha0 ⊢
  rw [← htb] at hb0 ⊢
  clear hta htb
  refine enter K.fn_law11_RulesBeside rfl K.nt_law11_RulesBeside rfl hs ?_
  clear hs w; intro a w h
  refine c_seq (c_region ?_)
  refine wv h (r_assign h rfl) rfl ?_
  clear h a w; intro a w h
  refine wnil (c_then ?_)
  refine c_seq ?_
  refine c_seq (c_region ?_)
  refine wl rfl (op_call h rfl K.go_law11_awake (law11_awake s _ _ h.2) rfl ?_)
  clear h a w; intro x a w hx h
  (try simp only [List.set_cons_zero, List.set_cons_succ] at h)
  refine wv h (r_not h rfl) rfl ?_
  clear h a w; intro a w h
  refine wv h (r_move h rfl) rfl ?_
  clear h a w; intro a w h
  refine wvG h (by first | exact .t rfl | exact .f rfl | exact .gt rfl | exact .gf rfl) (fun hg => by (try simp only [↓gval_on hg, ↓gval_and hg] at h); (have hg2 := hg; (try simp only [Bool.and_eq_true, Bool.or_eq_true, Bool.not_eq_true', decide_eq_true_eq, decide_eq_false_iff_not] at hg2)); first | exact r_move h rfl) rfl ?_
  clear h a w; intro a w h
  refine wvG h (by first | exact .t rfl | exact .f rfl | exact .gt rfl | exact .gf rfl) (fun hg => by (try simp only [↓gval_on hg, ↓gval_and hg] at h); (have hg2 := hg; (try simp only [Bool.and_eq_true, Bool.or_eq_true, Bool.not_eq_true', decide_eq_true_eq, decide_eq_false_iff_not] at hg2)); first | exact r_lenT h rfl K.u_string) rfl ?_
  clear h a w; intro a w h
  refine wvG h (by first | exact .t rfl | exact .f rfl | exact .gt rfl | exact .gf rfl) (fun hg => by (try simp only [↓gval_on hg, ↓gval_and hg] at h); (have hg2 := hg; (try simp only [Bool.and_eq_true, Bool.or_eq_true, Bool.not_eq_true', decide_eq_true_eq, decide_eq_false_iff_not] at hg2)); first | exact r_bin h rfl rfl (B.gtr_int)) rfl ?_
  clear h a w; intro a w h
  first
    | (refine wv h (r_pickA h rfl rfl rfl) rfl ?_)
    | (refine wv h (r_pickO h rfl rfl rfl) rfl ?_)
    | (refine wv h (r_pick_true h rfl rfl) rfl ?_)
    | (refine wv h (r_pick_false h rfl rfl) rfl ?_)
    | (refine wv h (r_pick h rfl rfl rfl) rfl ?_)
  clear h a w; intro a w h
  refine wv h (r_move h rfl) rfl ?_
  clear h a w; intro a w h
  refine wvG h (by first | exact .t rfl | exact .f rfl | exact .gt rfl | exact .gf rfl) (fun hg => by (try simp only [↓gval_on hg, ↓gval_and hg] at h); (have hg2 := hg; (try simp only [Bool.and_eq_true, Bool.or_eq_true, Bool.not_eq_true', decide_eq_true_eq, decide_eq_false_iff_not] at hg2)); first | exact r_move h rfl) rfl ?_
  clear h a w; intro a w h
  refine wvG h (by first | exact .t rfl | exact .f rfl | exact .gt rfl | exact .gf rfl) (fun hg => by (try simp only [↓gval_on hg, ↓gval_and hg] at h); (have hg2 := hg; (try simp only [Bool.and_eq_true, Bool.or_eq_true, Bool.not_eq_true', decide_eq_true_eq, decide_eq_false_iff_not] at hg2)); first | exact r_lenT h rfl K.u_string) rfl ?_
  clear h a w; intro a w h
  refine wvG h (by first | exact .t rfl | exact .f rfl | exact .gt rfl | exact .gf rfl) (fun hg => by (try simp only [↓gval_on hg, ↓gval_and hg] at h); (have hg2 := hg; (try simp only [Bool.and_eq_true, Bool.or_eq_true, Bool.not_eq_true', decide_eq_true_eq, decide_eq_false_iff_not] at hg2)); first | exact r_bin h rfl rfl (B.gtr_int)) rfl ?_
  clear h a w; intro a w h
  first
    | (refine wv h (r_pickA h rfl rfl rfl) rfl ?_)
    | (refine wv h (r_pickO h rfl rfl rfl) rfl ?_)
    | (refine wv h (r_pick_true h rfl rfl) rfl ?_)
    | (refine wv h (r_pick_false h rfl rfl) rfl ?_)
    | (refine wv h (r_pick h rfl rfl rfl) rfl ?_)
  clear h a w; intro a w h
  refine wnil (c_then ?_)
  first
   | refine c_condD h rfl (fun ht1 => ?_) (fun ht1 => ?_)
   | refine c_condP h rfl (by first | (simp only [Bool.and_eq_true, Bool.or_eq_true, Bool.not_eq_true', decide_eq_true_eq, decide_eq_false_iff_not, ne_eq, Bool.not_eq_eq_eq_not, Bool.not_true, beq_iff_eq, bne_iff_ne]; exact Iff.rfl) | exact Iff.rfl) (fun ht1 => ?_) (fun ht1 => ?_)
  ·
   as_aux_lemma =>
    refine c_seq (c_region ?_)
    refine wl rfl (op_call h rfl K.go_law11_awake (law11_awake s _ _ h.2) rfl ?_)
    clear h a w; intro x a w hx h
    (try simp only [List.set_cons_zero, List.set_cons_succ] at h)
    refine wv h (r_assign h rfl) rfl ?_
    clear h a w; intro a w h
    refine wnil (c_then ?_)
    refine c_ret ?_
    exact ret1 h rfl rfl ⟨(), rfl, (by first | exact h.2 | exact h.2.drop 1 | exact h.2.drop 2 | exact h.2.drop 3 | exact h.2.drop 4 | exact h.2.drop 5 | exact h.2.drop 6 | exact h.2.drop 7 | exact h.2.drop 8 | exact h.2.drop 9 | exact h.2.drop 10 | exact h.2.drop 11 | exact h.2.drop 12 | exact h.2.drop 13 | exact h.2.drop 14 | exact h.2.drop 15 | exact h.2.drop 16), trivial⟩
  ·
   have ha12 : ta.length ≤ 12 := by omega
   have hb12 : tb.length ≤ 12 := by omega
   have hbl : (besR ta tb 1).length = 3 := rfl
   refine c_skip ?_
   refine c_then ?_
   refine c_seq (c_region ?_)
   refine wv h (r_build (cells := ⟨cellsE (besE 1 0 [116, 111, 112])⟩) h K.u_api_Elem K.z_api_Elem K.pl_api_Elem rfl (by kernel_rfl)) rfl ?_
   clear h a w; intro a w h
   refine wv h (r_move h rfl) rfl ?_
   clear h a w; intro a w h
   refine wv h (r_build (cells := ⟨cellsE (besE 2 1 ta)⟩) h K.u_api_Elem K.z_api_Elem K.pl_api_Elem rfl (by kernel_rfl)) rfl ?_
   clear h a w; intro a w h
   refine wv h (r_move h rfl) rfl ?_
   clear h a w; intro a w h
   refine wv h (r_build (cells := ⟨cellsE (besE 3 1 tb)⟩) h K.u_api_Elem K.z_api_Elem K.pl_api_Elem rfl (by kernel_rfl)) rfl ?_
   clear h a w; intro a w h
   refine wl rfl (op_buildSlice (cells := (besR ta tb 1).flatMap cellsE) h K.u_api_Chart K.sz_api_Elem K.z_api_Elem rfl rfl rfl rfl rfl (by intro v hv; simp only [List.mem_cons, List.not_mem_nil, or_false] at hv; rcases hv with rfl | rfl | rfl <;> rfl) rfl ?_)
   clear h a w; intro b27 a w h
   replace h := h.toOwnM (size := 10) (cells := cellsE) (N := 3) (besR ta tb 1) (NF.zero _) rfl rfl rfl
   obtain ⟨v27, hv27⟩ : ∃ v : Value, v = .slice (some ⟨b27, 0, none⟩) 3 3 := ⟨_, rfl⟩
   rw [← hv27] at h
   refine wv h (r_assign h rfl) rfl ?_
   clear h a w; intro a w h
   refine wnil (c_then ?_)
   refine c_meet h (X := Int) (fun _ => [(0, sv ta), (1, sv tb), (2, .bool inn), (7, v27)]) (fun p => OwnM 10 cellsE v27 (besR ta tb p) :: F) (fun p => (p = 1 ∨ p = 2) ∧ decide (p = 1) = !inn) ?_ ?_
   ·
    refine c_seq (c_region ?_)
    refine wv h (r_move h rfl) rfl ?_
    clear h a w; intro a w h
    refine wnil (c_then ?_)
    first
     | refine c_condD h rfl (fun ht2 => ?_) (fun ht2 => ?_)
     | refine c_condP h rfl (by first | (simp only [Bool.and_eq_true, Bool.or_eq_true, Bool.not_eq_true', decide_eq_true_eq, decide_eq_false_iff_not, ne_eq, Bool.not_eq_eq_eq_not, Bool.not_true, beq_iff_eq, bne_iff_ne]; exact Iff.rfl) | exact Iff.rfl) (fun ht2 => ?_) (fun ht2 => ?_)
    ·
     as_aux_lemma =>
      refine c_region ?_
      refine wv h (r_move h rfl) rfl ?_
      clear h a w; intro a w h
      refine wv h (r_elP h rfl rfl K.u_api_Chart K.sz_api_Elem (by first | exact Views.own 0 rfl | exact Views.own 1 rfl | exact Views.own 2 rfl | exact Views.own 3 rfl | exact Views.own 4 rfl | exact Views.own 5 rfl | assumption | exact Views.of_drop 1 (by assumption) | exact Views.of_drop 2 (by assumption) | exact Views.of_drop 3 (by assumption) | exact Views.of_drop 4 (by assumption) | exact Views.of_drop 5 (by assumption) | exact Views.of_drop 6 (by assumption) | exact Views.of_drop 7 (by assumption) | exact Views.of_drop 8 (by assumption) | exact Views.of_drop 9 (by assumption) | exact Views.of_drop 10 (by assumption) | exact Views.of_drop 11 (by assumption) | exact Views.of_drop 12 (by assumption)) (by first | omega | (simp; done)) (by first | omega | (simp only [List.length_cons, List.length_nil]; omega) | (simp; done) | (simp; omega))) rfl ?_
      clear h a w; intro a w h
      refine wv h (r_elF h 2 rfl K.u_api_Elem rfl K.sz_int rfl rfl (by first | exact Views.own 0 rfl | exact Views.own 1 rfl | exact Views.own 2 rfl | exact Views.own 3 rfl | exact Views.own 4 rfl | exact Views.own 5 rfl | assumption | exact Views.of_drop 1 (by assumption) | exact Views.of_drop 2 (by assumption) | exact Views.of_drop 3 (by assumption) | exact Views.of_drop 4 (by assumption) | exact Views.of_drop 5 (by assumption) | exact Views.of_drop 6 (by assumption) | exact Views.of_drop 7 (by assumption) | exact Views.of_drop 8 (by assumption) | exact Views.of_drop 9 (by assumption) | exact Views.of_drop 10 (by assumption) | exact Views.of_drop 11 (by assumption) | exact Views.of_drop 12 (by assumption)) (by first | omega | (simp only [List.length_cons, List.length_nil]; omega) | (simp; done) | (simp; omega))) rfl ?_
      clear h a w; intro a w h
      refine wl rfl (op_storeRf (cells := cellsE) (l := besR ta tb 1) h (besE 3 2 tb) rfl rfl K.sz_int rfl rfl (by decide) rfl 0 rfl ?_)
      clear h a w; intro a w h
      refine wnil ?_
      exact ⟨2, h.keep [0, 1, 2, 7], .inr rfl, by rw [ht2]; rfl⟩
    ·
     refine c_skip ?_
     exact ⟨1, h.keep [0, 1, 2, 7], .inl rfl, by rw [show inn = false by simpa using ht2]; rfl⟩
   ·
    clear h a w; intro z a w hz h
    obtain ⟨p, hpz⟩ : ∃ p, p = z := ⟨_, rfl⟩
    rw [← hpz] at h hz
    obtain ⟨hz1, hz2⟩ := hz
    have hck := bes_check ha12 hb12 hz1
    refine c_seq (c_region ?_)
    refine wv h (r_build (cells := fD 0 0) h K.u_api_Fault K.z_api_Fault K.pl_api_Fault rfl (by kernel_rfl)) rfl ?_
    clear h a w; intro a w h
    refine wl rfl (op_alloc h K.z_api_Fault rfl ?_)
    clear h a w; intro b8 a w h
    first
        | (refine wl rfl (op_stA h rfl rfl K.sz_api_Fault (by first | exact Row.len _ | rfl | assumption | (simp; done) | (simp; omega) | omega) (by first | exact Row.one _ | exact bs_one _ | assumption | (simp; done) | (simp; (repeat' apply And.intro) <;> first | rfl | assumption)) 0 rfl (by first | rfl | assumption | (simp; done) | (simp; omega) | omega) ?_))
        | (refine wl rfl (op_stA h rfl rfl K.sz_api_Fault (by first | exact Row.len _ | rfl | assumption | (simp; done) | (simp; omega) | omega) (by first | exact Row.one _ | exact bs_one _ | assumption | (simp; done) | (simp; (repeat' apply And.intro) <;> first | rfl | assumption)) 1 rfl (by first | rfl | assumption | (simp; done) | (simp; omega) | omega) ?_))
        | (refine wl rfl (op_stA h rfl rfl K.sz_api_Fault (by first | exact Row.len _ | rfl | assumption | (simp; done) | (simp; omega) | omega) (by first | exact Row.one _ | exact bs_one _ | assumption | (simp; done) | (simp; (repeat' apply And.intro) <;> first | rfl | assumption)) 2 rfl (by first | rfl | assumption | (simp; done) | (simp; omega) | omega) ?_))
        | (refine wl rfl (op_stA h rfl rfl K.sz_api_Fault (by first | exact Row.len _ | rfl | assumption | (simp; done) | (simp; omega) | omega) (by first | exact Row.one _ | exact bs_one _ | assumption | (simp; done) | (simp; (repeat' apply And.intro) <;> first | rfl | assumption)) 3 rfl (by first | rfl | assumption | (simp; done) | (simp; omega) | omega) ?_))
        | (refine wl rfl (op_stA h rfl rfl K.sz_api_Fault (by first | exact Row.len _ | rfl | assumption | (simp; done) | (simp; omega) | omega) (by first | exact Row.one _ | exact bs_one _ | assumption | (simp; done) | (simp; (repeat' apply And.intro) <;> first | rfl | assumption)) 4 rfl (by first | rfl | assumption | (simp; done) | (simp; omega) | omega) ?_))
        | (refine wl rfl (op_stA h rfl rfl K.sz_api_Fault (by first | exact Row.len _ | rfl | assumption | (simp; done) | (simp; omega) | omega) (by first | exact Row.one _ | exact bs_one _ | assumption | (simp; done) | (simp; (repeat' apply And.intro) <;> first | rfl | assumption)) 5 rfl (by first | rfl | assumption | (simp; done) | (simp; omega) | omega) ?_))
    clear h a w; intro a w h
    (try simp only [List.set_cons_zero, List.set_cons_succ] at h)
    refine wnil (c_then ?_)
    refine c_meet h (X := Int × Int) (fun x => [(7, v27), (8, .pointer (some ⟨b8, 0, none⟩))]) (fun x => Blk b8 (.cells (fD x.1 x.2) t_api_Fault) :: OwnM 10 cellsE v27 (besR ta tb p) :: F) (fun x => checkR (besR ta tb p) = (x.1, x.2)) ?_ ?_
    ·
     refine c_block ?_
     refine c_seq (c_region ?_)
     refine wv h (r_move h rfl) rfl ?_
     clear h a w; intro a w h
     refine wv h (r_streq h rfl rfl) rfl ?_
     clear h a w; intro a w h
     refine wv h (r_assign h rfl) rfl ?_
     clear h a w; intro a w h
     refine wnil (c_then ?_)
     first
      | refine c_condD h rfl (fun ht3 => ?_) (fun ht3 => ?_)
      | refine c_condP h rfl (by first | (simp only [Bool.and_eq_true, Bool.or_eq_true, Bool.not_eq_true', decide_eq_true_eq, decide_eq_false_iff_not, ne_eq, Bool.not_eq_eq_eq_not, Bool.not_true, beq_iff_eq, bne_iff_ne]; exact Iff.rfl) | exact Iff.rfl) (fun ht3 => ?_) (fun ht3 => ?_)
     ·
      as_aux_lemma =>
       refine c_region ?_
       refine wv h (r_build (cells := fD 3 2) h K.u_api_Fault K.z_api_Fault K.pl_api_Fault rfl (by kernel_rfl)) rfl ?_
       clear h a w; intro a w h
       first
              | (refine wl rfl (op_stA h rfl rfl K.sz_api_Fault (by first | exact Row.len _ | rfl | assumption | (simp; done) | (simp; omega) | omega) (by first | exact Row.one _ | exact bs_one _ | assumption | (simp; done) | (simp; (repeat' apply And.intro) <;> first | rfl | assumption)) 0 rfl (by first | rfl | assumption | (simp; done) | (simp; omega) | omega) ?_))
              | (refine wl rfl (op_stA h rfl rfl K.sz_api_Fault (by first | exact Row.len _ | rfl | assumption | (simp; done) | (simp; omega) | omega) (by first | exact Row.one _ | exact bs_one _ | assumption | (simp; done) | (simp; (repeat' apply And.intro) <;> first | rfl | assumption)) 1 rfl (by first | rfl | assumption | (simp; done) | (simp; omega) | omega) ?_))
              | (refine wl rfl (op_stA h rfl rfl K.sz_api_Fault (by first | exact Row.len _ | rfl | assumption | (simp; done) | (simp; omega) | omega) (by first | exact Row.one _ | exact bs_one _ | assumption | (simp; done) | (simp; (repeat' apply And.intro) <;> first | rfl | assumption)) 2 rfl (by first | rfl | assumption | (simp; done) | (simp; omega) | omega) ?_))
              | (refine wl rfl (op_stA h rfl rfl K.sz_api_Fault (by first | exact Row.len _ | rfl | assumption | (simp; done) | (simp; omega) | omega) (by first | exact Row.one _ | exact bs_one _ | assumption | (simp; done) | (simp; (repeat' apply And.intro) <;> first | rfl | assumption)) 3 rfl (by first | rfl | assumption | (simp; done) | (simp; omega) | omega) ?_))
              | (refine wl rfl (op_stA h rfl rfl K.sz_api_Fault (by first | exact Row.len _ | rfl | assumption | (simp; done) | (simp; omega) | omega) (by first | exact Row.one _ | exact bs_one _ | assumption | (simp; done) | (simp; (repeat' apply And.intro) <;> first | rfl | assumption)) 4 rfl (by first | rfl | assumption | (simp; done) | (simp; omega) | omega) ?_))
              | (refine wl rfl (op_stA h rfl rfl K.sz_api_Fault (by first | exact Row.len _ | rfl | assumption | (simp; done) | (simp; omega) | omega) (by first | exact Row.one _ | exact bs_one _ | assumption | (simp; done) | (simp; (repeat' apply And.intro) <;> first | rfl | assumption)) 5 rfl (by first | rfl | assumption | (simp; done) | (simp; omega) | omega) ?_))
       clear h a w; intro a w h
       (try simp only [List.set_cons_zero, List.set_cons_succ] at h)
       refine wnil ?_
       refine b_normal ?_
       exact ⟨(3, 2), h.keep [7, 8], by rw [hck, if_pos ht3]⟩
     ·
      refine c_seq (c_region ?_)
      refine wv h (r_move h rfl) rfl ?_
      clear h a w; intro a w h
      refine wv h (r_streq h rfl rfl) rfl ?_
      clear h a w; intro a w h
      refine wv h (r_assign h rfl) rfl ?_
      clear h a w; intro a w h
      refine wnil (c_then ?_)
      first
       | refine c_condD h rfl (fun ht4 => ?_) (fun ht4 => ?_)
       | refine c_condP h rfl (by first | (simp only [Bool.and_eq_true, Bool.or_eq_true, Bool.not_eq_true', decide_eq_true_eq, decide_eq_false_iff_not, ne_eq, Bool.not_eq_eq_eq_not, Bool.not_true, beq_iff_eq, bne_iff_ne]; exact Iff.rfl) | exact Iff.rfl) (fun ht4 => ?_) (fun ht4 => ?_)
      ·
       as_aux_lemma =>
        refine c_region ?_
        refine wv h (r_build (cells := fD 3 3) h K.u_api_Fault K.z_api_Fault K.pl_api_Fault rfl (by kernel_rfl)) rfl ?_
        clear h a w; intro a w h
        first
                | (refine wl rfl (op_stA h rfl rfl K.sz_api_Fault (by first | exact Row.len _ | rfl | assumption | (simp; done) | (simp; omega) | omega) (by first | exact Row.one _ | exact bs_one _ | assumption | (simp; done) | (simp; (repeat' apply And.intro) <;> first | rfl | assumption)) 0 rfl (by first | rfl | assumption | (simp; done) | (simp; omega) | omega) ?_))
                | (refine wl rfl (op_stA h rfl rfl K.sz_api_Fault (by first | exact Row.len _ | rfl | assumption | (simp; done) | (simp; omega) | omega) (by first | exact Row.one _ | exact bs_one _ | assumption | (simp; done) | (simp; (repeat' apply And.intro) <;> first | rfl | assumption)) 1 rfl (by first | rfl | assumption | (simp; done) | (simp; omega) | omega) ?_))
                | (refine wl rfl (op_stA h rfl rfl K.sz_api_Fault (by first | exact Row.len _ | rfl | assumption | (simp; done) | (simp; omega) | omega) (by first | exact Row.one _ | exact bs_one _ | assumption | (simp; done) | (simp; (repeat' apply And.intro) <;> first | rfl | assumption)) 2 rfl (by first | rfl | assumption | (simp; done) | (simp; omega) | omega) ?_))
                | (refine wl rfl (op_stA h rfl rfl K.sz_api_Fault (by first | exact Row.len _ | rfl | assumption | (simp; done) | (simp; omega) | omega) (by first | exact Row.one _ | exact bs_one _ | assumption | (simp; done) | (simp; (repeat' apply And.intro) <;> first | rfl | assumption)) 3 rfl (by first | rfl | assumption | (simp; done) | (simp; omega) | omega) ?_))
                | (refine wl rfl (op_stA h rfl rfl K.sz_api_Fault (by first | exact Row.len _ | rfl | assumption | (simp; done) | (simp; omega) | omega) (by first | exact Row.one _ | exact bs_one _ | assumption | (simp; done) | (simp; (repeat' apply And.intro) <;> first | rfl | assumption)) 4 rfl (by first | rfl | assumption | (simp; done) | (simp; omega) | omega) ?_))
                | (refine wl rfl (op_stA h rfl rfl K.sz_api_Fault (by first | exact Row.len _ | rfl | assumption | (simp; done) | (simp; omega) | omega) (by first | exact Row.one _ | exact bs_one _ | assumption | (simp; done) | (simp; (repeat' apply And.intro) <;> first | rfl | assumption)) 5 rfl (by first | rfl | assumption | (simp; done) | (simp; omega) | omega) ?_))
        clear h a w; intro a w h
        (try simp only [List.set_cons_zero, List.set_cons_succ] at h)
        refine wnil ?_
        refine b_normal ?_
        exact ⟨(3, 3), h.keep [7, 8], by rw [hck, if_neg ht3, if_pos ht4]⟩
      ·
       refine c_seq (c_region ?_)
       refine wv h (r_move h rfl) rfl ?_
       clear h a w; intro a w h
       refine wv h (r_move h rfl) rfl ?_
       clear h a w; intro a w h
       refine wv h (r_streq h rfl rfl) rfl ?_
       clear h a w; intro a w h
       refine wv h (r_move h rfl) rfl ?_
       clear h a w; intro a w h
       refine wvG h (by first | exact .t rfl | exact .f rfl | exact .gt rfl | exact .gf rfl) (fun hg => by (try simp only [↓gval_on hg, ↓gval_and hg] at h); (have hg2 := hg; (try simp only [Bool.and_eq_true, Bool.or_eq_true, Bool.not_eq_true', decide_eq_true_eq, decide_eq_false_iff_not] at hg2)); first | exact r_move h rfl) rfl ?_
       clear h a w; intro a w h
       refine wvG h (by first | exact .t rfl | exact .f rfl | exact .gt rfl | exact .gf rfl) (fun hg => by (try simp only [↓gval_on hg, ↓gval_and hg] at h); (have hg2 := hg; (try simp only [Bool.and_eq_true, Bool.or_eq_true, Bool.not_eq_true', decide_eq_true_eq, decide_eq_false_iff_not] at hg2)); first | exact r_not h rfl) rfl ?_
       clear h a w; intro a w h
       first
              | (refine wv h (r_pickA h rfl rfl rfl) rfl ?_)
              | (refine wv h (r_pickO h rfl rfl rfl) rfl ?_)
              | (refine wv h (r_pick_true h rfl rfl) rfl ?_)
              | (refine wv h (r_pick_false h rfl rfl) rfl ?_)
              | (refine wv h (r_pick h rfl rfl rfl) rfl ?_)
       clear h a w; intro a w h
       refine wv h (r_assign h rfl) rfl ?_
       clear h a w; intro a w h
       refine wnil (c_then ?_)
       refine c_cond h rfl (fun ht5 => ?_) (fun ht5 => ?_)
       ·
        as_aux_lemma =>
         refine c_region ?_
         refine wv h (r_build (cells := fD 3 2) h K.u_api_Fault K.z_api_Fault K.pl_api_Fault rfl (by kernel_rfl)) rfl ?_
         clear h a w; intro a w h
         first
                  | (refine wl rfl (op_stA h rfl rfl K.sz_api_Fault (by first | exact Row.len _ | rfl | assumption | (simp; done) | (simp; omega) | omega) (by first | exact Row.one _ | exact bs_one _ | assumption | (simp; done) | (simp; (repeat' apply And.intro) <;> first | rfl | assumption)) 0 rfl (by first | rfl | assumption | (simp; done) | (simp; omega) | omega) ?_))
                  | (refine wl rfl (op_stA h rfl rfl K.sz_api_Fault (by first | exact Row.len _ | rfl | assumption | (simp; done) | (simp; omega) | omega) (by first | exact Row.one _ | exact bs_one _ | assumption | (simp; done) | (simp; (repeat' apply And.intro) <;> first | rfl | assumption)) 1 rfl (by first | rfl | assumption | (simp; done) | (simp; omega) | omega) ?_))
                  | (refine wl rfl (op_stA h rfl rfl K.sz_api_Fault (by first | exact Row.len _ | rfl | assumption | (simp; done) | (simp; omega) | omega) (by first | exact Row.one _ | exact bs_one _ | assumption | (simp; done) | (simp; (repeat' apply And.intro) <;> first | rfl | assumption)) 2 rfl (by first | rfl | assumption | (simp; done) | (simp; omega) | omega) ?_))
                  | (refine wl rfl (op_stA h rfl rfl K.sz_api_Fault (by first | exact Row.len _ | rfl | assumption | (simp; done) | (simp; omega) | omega) (by first | exact Row.one _ | exact bs_one _ | assumption | (simp; done) | (simp; (repeat' apply And.intro) <;> first | rfl | assumption)) 3 rfl (by first | rfl | assumption | (simp; done) | (simp; omega) | omega) ?_))
                  | (refine wl rfl (op_stA h rfl rfl K.sz_api_Fault (by first | exact Row.len _ | rfl | assumption | (simp; done) | (simp; omega) | omega) (by first | exact Row.one _ | exact bs_one _ | assumption | (simp; done) | (simp; (repeat' apply And.intro) <;> first | rfl | assumption)) 4 rfl (by first | rfl | assumption | (simp; done) | (simp; omega) | omega) ?_))
                  | (refine wl rfl (op_stA h rfl rfl K.sz_api_Fault (by first | exact Row.len _ | rfl | assumption | (simp; done) | (simp; omega) | omega) (by first | exact Row.one _ | exact bs_one _ | assumption | (simp; done) | (simp; (repeat' apply And.intro) <;> first | rfl | assumption)) 5 rfl (by first | rfl | assumption | (simp; done) | (simp; omega) | omega) ?_))
         clear h a w; intro a w h
         (try simp only [List.set_cons_zero, List.set_cons_succ] at h)
         refine wnil ?_
         refine b_normal ?_
         exact ⟨(3, 2), h.keep [7, 8], by rw [← hz2] at ht5; simp only [Bool.and_eq_true, decide_eq_true_eq] at ht5; rw [hck, if_neg ht3, if_neg ht4, if_pos ht5]⟩
       ·
        refine c_skip ?_
        refine b_normal ?_
        exact ⟨(0, 0), h.keep [7, 8], by rw [← hz2] at ht5; rw [hck, if_neg ht3, if_neg ht4, if_neg (by intro q; simp [q.1, q.2] at ht5)]⟩
    ·
     clear h a w; intro z a w hz h
     obtain ⟨m, q⟩ := z
     dsimp only at hz h
     refine c_seq (c_draw K.mixed (by kernel_rfl) h ?_)
     clear h a w; intro a hE
     refine qv hE (fun w hw => r_move ⟨hE, hw⟩ rfl) rfl ?_
     clear hE a; intro a hE
     refine q_c hE rfl K.go_rules_Check (fun w hw => rules_Check s _ _ _ _ (by first | exact Views.own 0 rfl | exact Views.own 1 rfl | exact Views.own 2 rfl | exact Views.own 3 rfl | exact Views.own 4 rfl | exact Views.own 5 rfl | assumption | exact Views.of_drop 1 (by assumption) | exact Views.of_drop 2 (by assumption) | exact Views.of_drop 3 (by assumption) | exact Views.of_drop 4 (by assumption) | exact Views.of_drop 5 (by assumption) | exact Views.of_drop 6 (by assumption) | exact Views.of_drop 7 (by assumption) | exact Views.of_drop 8 (by assumption) | exact Views.of_drop 9 (by assumption) | exact Views.of_drop 10 (by assumption) | exact Views.of_drop 11 (by assumption) | exact Views.of_drop 12 (by assumption)) hw) rfl ?_
     clear hE a; intro a hE
     first
          | (refine qv hE (fun w hw => r_ldA ⟨hE, hw⟩ rfl K.u_api_Fault rfl K.sz_api_Fault 0 rfl (by first | exact Row.len _ | rfl | assumption | (simp; done) | (simp; omega) | omega)) rfl ?_)
          | (refine qv hE (fun w hw => r_ldA ⟨hE, hw⟩ rfl K.u_api_Fault rfl K.sz_api_Fault 1 rfl (by first | exact Row.len _ | rfl | assumption | (simp; done) | (simp; omega) | omega)) rfl ?_)
          | (refine qv hE (fun w hw => r_ldA ⟨hE, hw⟩ rfl K.u_api_Fault rfl K.sz_api_Fault 2 rfl (by first | exact Row.len _ | rfl | assumption | (simp; done) | (simp; omega) | omega)) rfl ?_)
          | (refine qv hE (fun w hw => r_ldA ⟨hE, hw⟩ rfl K.u_api_Fault rfl K.sz_api_Fault 3 rfl (by first | exact Row.len _ | rfl | assumption | (simp; done) | (simp; omega) | omega)) rfl ?_)
          | (refine qv hE (fun w hw => r_ldA ⟨hE, hw⟩ rfl K.u_api_Fault rfl K.sz_api_Fault 4 rfl (by first | exact Row.len _ | rfl | assumption | (simp; done) | (simp; omega) | omega)) rfl ?_)
          | (refine qv hE (fun w hw => r_ldA ⟨hE, hw⟩ rfl K.u_api_Fault rfl K.sz_api_Fault 5 rfl (by first | exact Row.len _ | rfl | assumption | (simp; done) | (simp; omega) | omega)) rfl ?_)
          | (refine qv hE (fun w hw => r_loadCA ⟨hE, hw⟩ rfl K.u_api_Fault rfl K.sz_api_Fault (by assumption) (by first | rfl | assumption | (simp; done) | (simp; omega) | omega)) rfl ?_)
     clear hE a; intro a hE
     refine qv hE (fun w hw => r_faulteq ⟨hE, hw⟩ rfl rfl) rfl ?_
     clear hE a; intro a hE
     refine qv hE (fun w hw => r_assign ⟨hE, hw⟩ rfl) rfl ?_
     clear hE a; intro a hE
     refine qnil hE ?_
     clear hE a; intro a w h
     refine c_then ?_
     refine c_ret ?_
     exact ret1 h rfl rfl ⟨(), ret_true (by rw [hz]; simp), (by first | exact h.2 | exact h.2.drop 1 | exact h.2.drop 2 | exact h.2.drop 3 | exact h.2.drop 4 | exact h.2.drop 5 | exact h.2.drop 6 | exact h.2.drop 7 | exact h.2.drop 8 | exact h.2.drop 9 | exact h.2.drop 10 | exact h.2.drop 11 | exact h.2.drop 12 | exact h.2.drop 13 | exact h.2.drop 14 | exact h.2.drop 15 | exact h.2.drop 16), trivial⟩

def sdA (i : Nat) : El := ⟨10 + (i : Int), 2, 1, 0, [114] ++ [UInt8.ofInt (97 + (i : Int))], 0, 0, [], [], []⟩
def sdB (i : Nat) : El := ⟨20 + (i : Int), 1, 10 + (i : Int), 0, [115], 0, 0, [], [], []⟩
def sideA (i : Nat) : List El := besE 1 0 [116, 111, 112] :: (List.range i).map sdA
def sideB (k i : Nat) : List El := sideA k ++ (List.range i).map sdB
def sdC (k : UInt8) : El := ⟨30, k, 1, 0, [], 0, 0, [], [], []⟩
theorem sideA_len (i : Nat) : (sideA i).length = i + 1 := by simp [sideA]
theorem sideA_succ (i : Nat) : sideA (i + 1) = sideA i ++ [sdA i] := by simp [sideA, List.range_succ]
theorem sideB_len (k i : Nat) : (sideB k i).length = k + 1 + i := by simp [sideB, sideA_len]
theorem sideB_succ (k i : Nat) : sideB k (i + 1) = sideB k i ++ [sdB i] := by simp [sideB, List.range_succ]
theorem side_ok : ∀ k < 6, 1 ≤ k → checkR (sideB k k) = (0, 0) ∧ checkR (sideB k k ++ [sdC 3]) = (8, 1) ∧ checkR (sideB k k ++ [sdC 4]) = (8, 1) := by decide +kernel
theorem flat_one (l : List El) : ∀ u ∈ l.flatMap cellsE, u.oneCell' = true := by
  intro u hu
  obtain ⟨e, _, he⟩ := List.mem_flatMap.1 hu
  exact cellsE_one e u he
theorem flat_take {l : List El} {x : El} {n : Nat} (h : n = l.length) : ((l ++ [x]).flatMap cellsE).take (n * 10) = l.flatMap cellsE := by
  subst h
  rw [List.flatMap_append, List.take_append_of_le_length (by rw [flatMap_lenf (cells := cellsE) l]; exact Nat.le_refl _), List.take_of_length_le (by rw [flatMap_lenf (cells := cellsE) l]; exact Nat.le_refl _)]

theorem rulesSides (s w : World) (n : UInt8) (other : Bool) (kind : UInt8) (F : List HItem) (hs : Sat s w F) :
    Calls P n_law11_RulesSides #[bv n, .bool other, bv kind] w (Ret s (fun _ : Unit => .bool true) (fun _ => F) (fun _ => True)) := by
  have hn5 : (n % 5).toNat < 5 := by rw [UInt8.toNat_mod]; exact Nat.mod_lt _ (by decide)
  have hk2 : (kind % 2).toNat < 2 := by rw [UInt8.toNat_mod]; exact Nat.mod_lt _ (by decide)
  obtain ⟨k, hk⟩ : ∃ k, k = 1 + (n % 5).toNat := ⟨_, rfl⟩
  obtain ⟨hd1, hd2, hd3⟩ := side_ok k (by omega) (by omega)
  refine enter K.fn_law11_RulesSides rfl K.nt_law11_RulesSides rfl hs ?_
  clear hs w; intro a w h
  refine c_seq (c_region ?_)
  refine wv h (r_assign h rfl) rfl ?_
  clear h a w; intro a w h
  refine wnil (c_then ?_)
  refine c_seq (c_region ?_)
  refine wv h (r_move h rfl) rfl ?_
  clear h a w; intro a w h
  refine wv h (r_bin h rfl rfl (B.rem_u8 (y := 5) (by decide))) rfl ?_
  clear h a w; intro a w h
  refine wv h (r_conv h rfl K.u_uint8 K.u_int (C.i64_u8) ) rfl ?_
  clear h a w; intro a w h
  refine wv h (r_bin h rfl rfl (B.add_i64 (by omega) (by omega))) rfl ?_
  clear h a w; intro a w h
  rw [show (1 : Int) + ((n % 5).toNat : Int) = (k : Int) by omega] at h
  refine wv h (r_assign h rfl) rfl ?_
  clear h a w; intro a w h
  refine wnil (c_then ?_)
  refine c_seq (c_region ?_)
  refine wv h (r_build (cells := ⟨cellsE (besE 1 0 [116, 111, 112])⟩) h K.u_api_Elem K.z_api_Elem K.pl_api_Elem rfl (by kernel_rfl)) rfl ?_
  clear h a w; intro a w h
  refine wl rfl (op_build1 h K.u_api_Chart K.sz_api_Elem K.z_api_Elem rfl rfl rfl (by first | exact Row.len _ | rfl | assumption | (simp; done) | (simp; omega) | omega) rfl ?_)
  clear h a w; intro b17 a w h
  replace h := h.toOwnM (size := 10) (cells := cellsE) (N := 1) (sideA 0) (NF.zero _) rfl rfl rfl
  obtain ⟨v17, hv17⟩ : ∃ v : Value, v = .slice (some ⟨b17, 0, none⟩) 1 1 := ⟨_, rfl⟩
  rw [← hv17] at h
  refine wv h (r_assign h rfl) rfl ?_
  clear h a w; intro a w h
  refine wnil (c_then ?_)
  refine c_seq ?_
  refine c_seq (c_region ?_)
  refine wv h (r_assign h rfl) rfl ?_
  clear h a w; intro a w h
  refine wnil (c_then ?_)
  refine c_block ?_
  refine c_loopX h (X := Nat × Value) (fun x => [(1, .bool other), (2, bv kind), (7, .int .i64 (k : Int)), (8, x.2), (9, .int .i64 (x.1 : Int))]) (fun x => OwnM 10 cellsE x.2 (sideA x.1) :: F) (fun x => x.1 ≤ k) (fun x => k - x.1) (0, v17) (h.keep [1, 2, 7, 8, 9]) (Nat.zero_le _) ?_
  clear h a w; intro x a w hx h
  obtain ⟨i, v⟩ := x
  replace hx : i ≤ k := hx
  dsimp only at h
  have hrl := sideA_len i
  as_aux_lemma =>
   refine c_seq ?_
   refine c_seq (c_region ?_)
   refine wv h (r_move h rfl) rfl ?_
   clear h a w; intro a w h
   refine wv h (r_move h rfl) rfl ?_
   clear h a w; intro a w h
   refine wv h (r_bin h rfl rfl (B.lss_int)) rfl ?_
   clear h a w; intro a w h
   refine wnil (c_then ?_)
   first
    | refine c_condD h rfl (fun ht1 => ?_) (fun ht1 => ?_)
    | refine c_condP h rfl (by first | (simp only [Bool.and_eq_true, Bool.or_eq_true, Bool.not_eq_true', decide_eq_true_eq, decide_eq_false_iff_not, ne_eq, Bool.not_eq_eq_eq_not, Bool.not_true, beq_iff_eq, bne_iff_ne]; exact Iff.rfl) | exact Iff.rfl) (fun ht1 => ?_) (fun ht1 => ?_)
   ·
    refine c_skip ?_
    refine c_then ?_
    refine c_seq ?_
    refine c_block ?_
    refine c_region ?_
    refine wv h (r_move h rfl) rfl ?_
    clear h a w; intro a w h
    refine wv h (r_move h rfl) rfl ?_
    clear h a w; intro a w h
    refine wv h (r_bin h rfl rfl (B.add_i64 (by omega) (by omega))) rfl ?_
    clear h a w; intro a w h
    refine wv h (r_move h rfl) rfl ?_
    clear h a w; intro a w h
    refine wv h (r_bin h rfl rfl (B.add_i64 (by omega) (by omega))) rfl ?_
    clear h a w; intro a w h
    refine wv h (r_conv h rfl K.u_int K.u_uint8 (C.u8_i64) ) rfl ?_
    clear h a w; intro a w h
    refine wl rfl (op_buildSlice h K.u_S_uint8 K.sz_uint8 K.z_uint8 rfl rfl rfl rfl rfl (by simp [Value.cells, bv, w32, w64, sv]) rfl ?_)
    clear h a w; intro b29 a w h
    replace h := h.toOwnb [UInt8.ofInt (97 + (i : Int))] (NF.zero _) rfl rfl
    refine wv h (r_b2sb h rfl K.u_S_uint8 K.u_uint8 K.u_string (by first | exact ViewsB.own 0 rfl | exact ViewsB.own 1 rfl | exact ViewsB.own 2 rfl | exact ViewsB.own 3 rfl | exact ViewsB.own 4 rfl | exact ViewsB.own 5 rfl | assumption | exact ViewsB.nil _ | exact ViewsB.arr 0 rfl (by first | assumption | rfl | (simp; done)) (Nat.le_refl _) (by simp [maxLen]) | exact ViewsB.arr 1 rfl (by first | assumption | rfl | (simp; done)) (Nat.le_refl _) (by simp [maxLen]) | exact ViewsB.arr 2 rfl (by first | assumption | rfl | (simp; done)) (Nat.le_refl _) (by simp [maxLen]) | exact ViewsB.arr 3 rfl (by first | assumption | rfl | (simp; done)) (Nat.le_refl _) (by simp [maxLen]) | exact ViewsB.arr 4 rfl (by first | assumption | rfl | (simp; done)) (Nat.le_refl _) (by simp [maxLen]) | exact ViewsB.of_drop 1 (by assumption) | exact ViewsB.of_drop 2 (by assumption) | exact ViewsB.of_drop 3 (by assumption) | exact ViewsB.of_drop 4 (by assumption) | exact ViewsB.of_drop 5 (by assumption) | exact ViewsB.of_drop 6 (by assumption) | exact ViewsB.of_drop 7 (by assumption) | exact ViewsB.of_drop 8 (by assumption) | exact ViewsB.of_drop 9 (by assumption) | exact ViewsB.of_drop 10 (by assumption) | exact ViewsB.of_drop 11 (by assumption) | exact ViewsB.of_drop 12 (by assumption) | exact ViewsB.sub (by first | exact ViewsB.own 0 rfl | exact ViewsB.own 1 rfl | exact ViewsB.own 2 rfl | exact ViewsB.own 3 rfl | exact ViewsB.own 4 rfl | exact ViewsB.own 5 rfl | assumption | exact ViewsB.nil _ | exact ViewsB.arr 0 rfl (by first | assumption | rfl | (simp; done)) (Nat.le_refl _) (by simp [maxLen]) | exact ViewsB.arr 1 rfl (by first | assumption | rfl | (simp; done)) (Nat.le_refl _) (by simp [maxLen]) | exact ViewsB.arr 2 rfl (by first | assumption | rfl | (simp; done)) (Nat.le_refl _) (by simp [maxLen]) | exact ViewsB.arr 3 rfl (by first | assumption | rfl | (simp; done)) (Nat.le_refl _) (by simp [maxLen]) | exact ViewsB.arr 4 rfl (by first | assumption | rfl | (simp; done)) (Nat.le_refl _) (by simp [maxLen]) | exact ViewsB.of_drop 1 (by assumption) | exact ViewsB.of_drop 2 (by assumption) | exact ViewsB.of_drop 3 (by assumption) | exact ViewsB.of_drop 4 (by assumption) | exact ViewsB.of_drop 5 (by assumption) | exact ViewsB.of_drop 6 (by assumption) | exact ViewsB.of_drop 7 (by assumption) | exact ViewsB.of_drop 8 (by assumption) | exact ViewsB.of_drop 9 (by assumption) | exact ViewsB.of_drop 10 (by assumption) | exact ViewsB.of_drop 11 (by assumption) | exact ViewsB.of_drop 12 (by assumption)) (by omega) (by first | omega | (simp; done) | (simp; omega)))) rfl ?_
    clear h a w; intro a w h
    refine wv h (r_strcat h rfl rfl (by first | omega | (simp only [List.length_cons, List.length_nil]; omega) | (simp; done) | (simp; omega))) rfl ?_
    clear h a w; intro a w h
    refine wv h (r_build (cells := ⟨cellsE (sdA i)⟩) h K.u_api_Elem K.z_api_Elem K.pl_api_Elem rfl (by kernel_rfl)) rfl ?_
    clear h a w; intro a w h
    refine wl rfl (op_build1 h K.u_api_Chart K.sz_api_Elem K.z_api_Elem rfl rfl rfl (by first | exact Row.len _ | rfl | assumption | (simp; done) | (simp; omega) | omega) rfl ?_)
    clear h a w; intro b33 a w h
    first
        | (refine wl rfl (op_appendR1 h rfl rfl K.u_api_Chart K.sz_api_Elem K.z_api_Elem rfl rfl 0 rfl (by first | omega | (simp only [List.length_cons, List.length_nil]; omega) | (simp; done) | (simp; omega)) rfl ?_))
        | (refine wl rfl (op_appendR1 h rfl rfl K.u_api_Chart K.sz_api_Elem K.z_api_Elem rfl rfl 1 rfl (by first | omega | (simp only [List.length_cons, List.length_nil]; omega) | (simp; done) | (simp; omega)) rfl ?_))
        | (refine wl rfl (op_appendR1 h rfl rfl K.u_api_Chart K.sz_api_Elem K.z_api_Elem rfl rfl 2 rfl (by first | omega | (simp only [List.length_cons, List.length_nil]; omega) | (simp; done) | (simp; omega)) rfl ?_))
        | (refine wl rfl (op_appendR1 h rfl rfl K.u_api_Chart K.sz_api_Elem K.z_api_Elem rfl rfl 3 rfl (by first | omega | (simp only [List.length_cons, List.length_nil]; omega) | (simp; done) | (simp; omega)) rfl ?_))
        | (refine wl rfl (op_appendR1 h rfl rfl K.u_api_Chart K.sz_api_Elem K.z_api_Elem rfl rfl 4 rfl (by first | omega | (simp only [List.length_cons, List.length_nil]; omega) | (simp; done) | (simp; omega)) rfl ?_))
        | (refine wl rfl (op_appendR1 h rfl rfl K.u_api_Chart K.sz_api_Elem K.z_api_Elem rfl rfl 5 rfl (by first | omega | (simp only [List.length_cons, List.length_nil]; omega) | (simp; done) | (simp; omega)) rfl ?_))
    clear h a w; intro v34 a w h
    (try simp only [List.set_cons_zero, List.set_cons_succ] at h)
    refine wv h (r_assign h rfl) rfl ?_
    clear h a w; intro a w h
    refine wnil ?_
    refine b_normal ?_
    refine c_then ?_
    refine c_region ?_
    refine wv h (r_move h rfl) rfl ?_
    clear h a w; intro a w h
    refine wv h (r_bin h rfl rfl (B.add_i64 (by omega) (by omega))) rfl ?_
    clear h a w; intro a w h
    refine wv h (r_assign h rfl) rfl ?_
    clear h a w; intro a w h
    refine wnil ?_
    exact ⟨(i + 1, v34), by dsimp only; rw [sideA_succ]; exact (h.drop 1).keep [1, 2, 7, 8, 9], by show i + 1 ≤ k; omega, by show k - (i + 1) < k - i; omega⟩
   ·
    obtain rfl : i = k := by omega
    refine c_exit ?_
    refine e_then ?_
    refine e_then ?_
    refine e_here ?_
    refine c_then ?_
    refine c_seq ?_
    refine c_seq (c_region ?_)
    refine wv h (r_assign h rfl) rfl ?_
    clear h a w; intro a w h
    refine wnil (c_then ?_)
    refine c_block ?_
    refine c_loopX h (X := Nat × Value) (fun x => [(1, .bool other), (2, bv kind), (7, .int .i64 (i : Int)), (8, x.2), (10, .int .i64 (x.1 : Int))]) (fun x => OwnM 10 cellsE x.2 (sideB i x.1) :: F) (fun x => x.1 ≤ i) (fun x => i - x.1) (0, v) (by rw [show sideB i 0 = sideA i by simp [sideB]]; exact h.keep [1, 2, 7, 8, 10]) (Nat.zero_le _) ?_
    clear h a w; intro x a w hx h
    obtain ⟨j, v⟩ := x
    replace hx : j ≤ i := hx
    dsimp only at h
    have hrl := sideB_len i j
    as_aux_lemma =>
     refine c_seq ?_
     refine c_seq (c_region ?_)
     refine wv h (r_move h rfl) rfl ?_
     clear h a w; intro a w h
     refine wv h (r_move h rfl) rfl ?_
     clear h a w; intro a w h
     refine wv h (r_bin h rfl rfl (B.lss_int)) rfl ?_
     clear h a w; intro a w h
     refine wnil (c_then ?_)
     first
      | refine c_condD h rfl (fun ht2 => ?_) (fun ht2 => ?_)
      | refine c_condP h rfl (by first | (simp only [Bool.and_eq_true, Bool.or_eq_true, Bool.not_eq_true', decide_eq_true_eq, decide_eq_false_iff_not, ne_eq, Bool.not_eq_eq_eq_not, Bool.not_true, beq_iff_eq, bne_iff_ne]; exact Iff.rfl) | exact Iff.rfl) (fun ht2 => ?_) (fun ht2 => ?_)
     ·
      refine c_skip ?_
      refine c_then ?_
      refine c_seq ?_
      refine c_block ?_
      refine c_seq (c_region ?_)
      refine wv h (r_move h rfl) rfl ?_
      clear h a w; intro a w h
      refine wv h (r_move h rfl) rfl ?_
      clear h a w; intro a w h
      refine wv h (r_bin h rfl rfl (B.add_i64 (by omega) (by omega))) rfl ?_
      clear h a w; intro a w h
      refine wv h (r_move h rfl) rfl ?_
      clear h a w; intro a w h
      refine wv h (r_bin h rfl rfl (B.add_i64 (by omega) (by omega))) rfl ?_
      clear h a w; intro a w h
      refine wv h (r_build (cells := ⟨cellsE (sdB j)⟩) h K.u_api_Elem K.z_api_Elem K.pl_api_Elem rfl (by kernel_rfl)) rfl ?_
      clear h a w; intro a w h
      refine wv h (r_build (cells := ⟨cellsE ⟨0, 0, 0, 0, [], 0, 0, [], [], []⟩⟩) h K.u_api_Elem K.z_api_Elem K.pl_api_Elem rfl (by kernel_rfl)) rfl ?_
      clear h a w; intro a w h
      refine wl rfl (op_buildSlice (cells := [sdB j, zeroE].flatMap cellsE) h K.u_api_Chart K.sz_api_Elem K.z_api_Elem rfl rfl rfl rfl rfl (by intro v hv; simp only [List.mem_cons, List.not_mem_nil, or_false] at hv; rcases hv with rfl | rfl <;> rfl) rfl ?_)
      clear h a w; intro b47 a w h
      replace h := h.toOwnM (size := 10) (cells := cellsE) (N := 2) [sdB j, zeroE] (NF.zero _) rfl rfl rfl
      refine wl rfl (op_append h rfl rfl K.u_api_Chart K.sz_api_Elem K.z_api_Elem rfl rfl 1 rfl (Src.views K.u_api_Chart (Views.own 0 rfl) h.2) (flat_one _) (by simp; omega) rfl ?_)
      clear h a w; intro v48 a w h
      simp only [List.set_cons_zero, List.set_cons_succ] at h
      rw [show Own 10 v48 ((sideB i j).length + [sdB j, zeroE].length) ((sideB i j).flatMap cellsE ++ [sdB j, zeroE].flatMap cellsE) = OwnM 10 cellsE v48 (sideB i j ++ [sdB j, zeroE]) from OwnM_eq (by rw [List.flatMap_append]) (by simp)] at h
      have hrl2 : (sideB i j ++ [sdB j, zeroE]).length = i + 1 + j + 2 := by simp [hrl]
      refine wv h (r_assign h rfl) rfl ?_
      clear h a w; intro a w h
      refine wnil (c_then ?_)
      refine c_region ?_
      refine wv h (r_move h rfl) rfl ?_
      clear h a w; intro a w h
      refine wv h (r_move h rfl) rfl ?_
      clear h a w; intro a w h
      refine wv h (r_lenV h rfl K.u_api_Chart (by first | exact Views.own 0 rfl | exact Views.own 1 rfl | exact Views.own 2 rfl | exact Views.own 3 rfl | exact Views.own 4 rfl | exact Views.own 5 rfl | assumption | exact Views.of_drop 1 (by assumption) | exact Views.of_drop 2 (by assumption) | exact Views.of_drop 3 (by assumption) | exact Views.of_drop 4 (by assumption) | exact Views.of_drop 5 (by assumption) | exact Views.of_drop 6 (by assumption) | exact Views.of_drop 7 (by assumption) | exact Views.of_drop 8 (by assumption) | exact Views.of_drop 9 (by assumption) | exact Views.of_drop 10 (by assumption) | exact Views.of_drop 11 (by assumption) | exact Views.of_drop 12 (by assumption))) rfl ?_
      clear h a w; intro a w h
      refine wv h (r_bin h rfl rfl (B.sub_i64 (by omega) (by omega))) rfl ?_
      clear h a w; intro a w h
      rw [show (((sideB i j ++ [sdB j, zeroE]).length : Nat) : Int) - 1 = ((i + 1 + j + 1 : Nat) : Int) by omega] at h
      refine wl rfl (op_sliceOwn h rfl K.u_api_Chart K.sz_api_Elem 1 rfl 0 (i + 1 + j + 1) rfl ⟨_, rfl⟩ (Nat.zero_le _) (by omega) rfl rfl ?_)
      clear h a w; intro a w h
      simp only [List.set_cons_zero, List.set_cons_succ] at h
      rw [show Own 10 (subV 10 v48 0 (i + 1 + j + 1)) (i + 1 + j + 1 - 0) ((((sideB i j ++ [sdB j, zeroE]).flatMap cellsE).drop (0 * 10)).take ((i + 1 + j + 1 - 0) * 10)) = OwnM 10 cellsE (subV 10 v48 0 (i + 1 + j + 1)) (sideB i (j + 1)) from
        OwnM_eq (by rw [Nat.zero_mul, List.drop_zero, sideB_succ, show sideB i j ++ [sdB j, zeroE] = (sideB i j ++ [sdB j]) ++ [zeroE] by simp]; exact flat_take (by simp [hrl])) (by rw [sideB_len]; omega)] at h
      refine wv h (r_assign h rfl) rfl ?_
      clear h a w; intro a w h
      refine wnil ?_
      refine b_normal ?_
      refine c_then ?_
      refine c_region ?_
      refine wv h (r_move h rfl) rfl ?_
      clear h a w; intro a w h
      refine wv h (r_bin h rfl rfl (B.add_i64 (by omega) (by omega))) rfl ?_
      clear h a w; intro a w h
      refine wv h (r_assign h rfl) rfl ?_
      clear h a w; intro a w h
      refine wnil ?_
      exact ⟨(j + 1, subV 10 v48 0 (i + 1 + j + 1)), (h.drop 1).keep [1, 2, 7, 8, 10], by show j + 1 ≤ i; omega, by show i - (j + 1) < i - j; omega⟩
     ·
      obtain rfl : i = j := by omega
      refine c_exit ?_
      refine e_then ?_
      refine e_then ?_
      refine e_here ?_
      refine c_then ?_
      refine c_seq (c_region ?_)
      refine wv h (r_build (cells := fD 0 0) h K.u_api_Fault K.z_api_Fault K.pl_api_Fault rfl (by kernel_rfl)) rfl ?_
      clear h a w; intro a w h
      refine wl rfl (op_alloc h K.z_api_Fault rfl ?_)
      clear h a w; intro b11 a w h
      first
            | (refine wl rfl (op_stA h rfl rfl K.sz_api_Fault (by first | exact Row.len _ | rfl | assumption | (simp; done) | (simp; omega) | omega) (by first | exact Row.one _ | exact bs_one _ | assumption | (simp; done) | (simp; (repeat' apply And.intro) <;> first | rfl | assumption)) 0 rfl (by first | rfl | assumption | (simp; done) | (simp; omega) | omega) ?_))
            | (refine wl rfl (op_stA h rfl rfl K.sz_api_Fault (by first | exact Row.len _ | rfl | assumption | (simp; done) | (simp; omega) | omega) (by first | exact Row.one _ | exact bs_one _ | assumption | (simp; done) | (simp; (repeat' apply And.intro) <;> first | rfl | assumption)) 1 rfl (by first | rfl | assumption | (simp; done) | (simp; omega) | omega) ?_))
            | (refine wl rfl (op_stA h rfl rfl K.sz_api_Fault (by first | exact Row.len _ | rfl | assumption | (simp; done) | (simp; omega) | omega) (by first | exact Row.one _ | exact bs_one _ | assumption | (simp; done) | (simp; (repeat' apply And.intro) <;> first | rfl | assumption)) 2 rfl (by first | rfl | assumption | (simp; done) | (simp; omega) | omega) ?_))
            | (refine wl rfl (op_stA h rfl rfl K.sz_api_Fault (by first | exact Row.len _ | rfl | assumption | (simp; done) | (simp; omega) | omega) (by first | exact Row.one _ | exact bs_one _ | assumption | (simp; done) | (simp; (repeat' apply And.intro) <;> first | rfl | assumption)) 3 rfl (by first | rfl | assumption | (simp; done) | (simp; omega) | omega) ?_))
            | (refine wl rfl (op_stA h rfl rfl K.sz_api_Fault (by first | exact Row.len _ | rfl | assumption | (simp; done) | (simp; omega) | omega) (by first | exact Row.one _ | exact bs_one _ | assumption | (simp; done) | (simp; (repeat' apply And.intro) <;> first | rfl | assumption)) 4 rfl (by first | rfl | assumption | (simp; done) | (simp; omega) | omega) ?_))
            | (refine wl rfl (op_stA h rfl rfl K.sz_api_Fault (by first | exact Row.len _ | rfl | assumption | (simp; done) | (simp; omega) | omega) (by first | exact Row.one _ | exact bs_one _ | assumption | (simp; done) | (simp; (repeat' apply And.intro) <;> first | rfl | assumption)) 5 rfl (by first | rfl | assumption | (simp; done) | (simp; omega) | omega) ?_))
      clear h a w; intro a w h
      (try simp only [List.set_cons_zero, List.set_cons_succ] at h)
      refine wnil (c_then ?_)
      refine c_meet h (X := Value × List El × Int × Int) (fun x => [(8, x.1), (11, .pointer (some ⟨b11, 0, none⟩))]) (fun x => Blk b11 (.cells (fD x.2.2.1 x.2.2.2) t_api_Fault) :: OwnM 10 cellsE x.1 x.2.1 :: F) (fun x => checkR x.2.1 = (x.2.2.1, x.2.2.2)) ?_ ?_
      ·
       refine c_seq (c_region ?_)
       refine wv h (r_move h rfl) rfl ?_
       clear h a w; intro a w h
       refine wnil (c_then ?_)
       first
        | refine c_condD h rfl (fun ht3 => ?_) (fun ht3 => ?_)
        | refine c_condP h rfl (by first | (simp only [Bool.and_eq_true, Bool.or_eq_true, Bool.not_eq_true', decide_eq_true_eq, decide_eq_false_iff_not, ne_eq, Bool.not_eq_eq_eq_not, Bool.not_true, beq_iff_eq, bne_iff_ne]; exact Iff.rfl) | exact Iff.rfl) (fun ht3 => ?_) (fun ht3 => ?_)
       ·
        as_aux_lemma =>
         refine c_seq (c_region ?_)
         refine wv h (r_move h rfl) rfl ?_
         clear h a w; intro a w h
         refine wl rfl (op_buildSlice h K.u_S_uint8 K.sz_uint8 K.z_uint8 rfl rfl rfl rfl rfl (by simp [Value.cells, bv, w32, w64, sv]) rfl ?_)
         clear h a w; intro b57 a w h
         replace h := h.toOwnb [3, 4] (NF.zero _) rfl rfl
         refine wv h (r_move h rfl) rfl ?_
         clear h a w; intro a w h
         refine wv h (r_bin h rfl rfl (B.rem_u8 (y := 2) (by decide))) rfl ?_
         clear h a w; intro a w h
         refine wv h (r_elP h rfl rfl K.u_S_uint8 K.sz_uint8 (by first | exact ViewsB.own 0 rfl | exact ViewsB.own 1 rfl | exact ViewsB.own 2 rfl | exact ViewsB.own 3 rfl | exact ViewsB.own 4 rfl | exact ViewsB.own 5 rfl | assumption | exact ViewsB.nil _ | exact ViewsB.arr 0 rfl (by first | assumption | rfl | (simp; done)) (Nat.le_refl _) (by simp [maxLen]) | exact ViewsB.arr 1 rfl (by first | assumption | rfl | (simp; done)) (Nat.le_refl _) (by simp [maxLen]) | exact ViewsB.arr 2 rfl (by first | assumption | rfl | (simp; done)) (Nat.le_refl _) (by simp [maxLen]) | exact ViewsB.arr 3 rfl (by first | assumption | rfl | (simp; done)) (Nat.le_refl _) (by simp [maxLen]) | exact ViewsB.arr 4 rfl (by first | assumption | rfl | (simp; done)) (Nat.le_refl _) (by simp [maxLen]) | exact ViewsB.of_drop 1 (by assumption) | exact ViewsB.of_drop 2 (by assumption) | exact ViewsB.of_drop 3 (by assumption) | exact ViewsB.of_drop 4 (by assumption) | exact ViewsB.of_drop 5 (by assumption) | exact ViewsB.of_drop 6 (by assumption) | exact ViewsB.of_drop 7 (by assumption) | exact ViewsB.of_drop 8 (by assumption) | exact ViewsB.of_drop 9 (by assumption) | exact ViewsB.of_drop 10 (by assumption) | exact ViewsB.of_drop 11 (by assumption) | exact ViewsB.of_drop 12 (by assumption) | exact ViewsB.sub (by first | exact ViewsB.own 0 rfl | exact ViewsB.own 1 rfl | exact ViewsB.own 2 rfl | exact ViewsB.own 3 rfl | exact ViewsB.own 4 rfl | exact ViewsB.own 5 rfl | assumption | exact ViewsB.nil _ | exact ViewsB.arr 0 rfl (by first | assumption | rfl | (simp; done)) (Nat.le_refl _) (by simp [maxLen]) | exact ViewsB.arr 1 rfl (by first | assumption | rfl | (simp; done)) (Nat.le_refl _) (by simp [maxLen]) | exact ViewsB.arr 2 rfl (by first | assumption | rfl | (simp; done)) (Nat.le_refl _) (by simp [maxLen]) | exact ViewsB.arr 3 rfl (by first | assumption | rfl | (simp; done)) (Nat.le_refl _) (by simp [maxLen]) | exact ViewsB.arr 4 rfl (by first | assumption | rfl | (simp; done)) (Nat.le_refl _) (by simp [maxLen]) | exact ViewsB.of_drop 1 (by assumption) | exact ViewsB.of_drop 2 (by assumption) | exact ViewsB.of_drop 3 (by assumption) | exact ViewsB.of_drop 4 (by assumption) | exact ViewsB.of_drop 5 (by assumption) | exact ViewsB.of_drop 6 (by assumption) | exact ViewsB.of_drop 7 (by assumption) | exact ViewsB.of_drop 8 (by assumption) | exact ViewsB.of_drop 9 (by assumption) | exact ViewsB.of_drop 10 (by assumption) | exact ViewsB.of_drop 11 (by assumption) | exact ViewsB.of_drop 12 (by assumption)) (by omega) (by first | omega | (simp; done) | (simp; omega))) (by first | omega | (simp; done)) (by first | omega | (simp only [List.length_cons, List.length_nil]; omega) | (simp; done) | (simp; omega))) rfl ?_
         clear h a w; intro a w h
         refine wv h (r_elb h rfl K.u_uint8 rfl (by first | exact ViewsB.own 0 rfl | exact ViewsB.own 1 rfl | exact ViewsB.own 2 rfl | exact ViewsB.own 3 rfl | exact ViewsB.own 4 rfl | exact ViewsB.own 5 rfl | assumption | exact ViewsB.nil _ | exact ViewsB.arr 0 rfl (by first | assumption | rfl | (simp; done)) (Nat.le_refl _) (by simp [maxLen]) | exact ViewsB.arr 1 rfl (by first | assumption | rfl | (simp; done)) (Nat.le_refl _) (by simp [maxLen]) | exact ViewsB.arr 2 rfl (by first | assumption | rfl | (simp; done)) (Nat.le_refl _) (by simp [maxLen]) | exact ViewsB.arr 3 rfl (by first | assumption | rfl | (simp; done)) (Nat.le_refl _) (by simp [maxLen]) | exact ViewsB.arr 4 rfl (by first | assumption | rfl | (simp; done)) (Nat.le_refl _) (by simp [maxLen]) | exact ViewsB.of_drop 1 (by assumption) | exact ViewsB.of_drop 2 (by assumption) | exact ViewsB.of_drop 3 (by assumption) | exact ViewsB.of_drop 4 (by assumption) | exact ViewsB.of_drop 5 (by assumption) | exact ViewsB.of_drop 6 (by assumption) | exact ViewsB.of_drop 7 (by assumption) | exact ViewsB.of_drop 8 (by assumption) | exact ViewsB.of_drop 9 (by assumption) | exact ViewsB.of_drop 10 (by assumption) | exact ViewsB.of_drop 11 (by assumption) | exact ViewsB.of_drop 12 (by assumption) | exact ViewsB.sub (by first | exact ViewsB.own 0 rfl | exact ViewsB.own 1 rfl | exact ViewsB.own 2 rfl | exact ViewsB.own 3 rfl | exact ViewsB.own 4 rfl | exact ViewsB.own 5 rfl | assumption | exact ViewsB.nil _ | exact ViewsB.arr 0 rfl (by first | assumption | rfl | (simp; done)) (Nat.le_refl _) (by simp [maxLen]) | exact ViewsB.arr 1 rfl (by first | assumption | rfl | (simp; done)) (Nat.le_refl _) (by simp [maxLen]) | exact ViewsB.arr 2 rfl (by first | assumption | rfl | (simp; done)) (Nat.le_refl _) (by simp [maxLen]) | exact ViewsB.arr 3 rfl (by first | assumption | rfl | (simp; done)) (Nat.le_refl _) (by simp [maxLen]) | exact ViewsB.arr 4 rfl (by first | assumption | rfl | (simp; done)) (Nat.le_refl _) (by simp [maxLen]) | exact ViewsB.of_drop 1 (by assumption) | exact ViewsB.of_drop 2 (by assumption) | exact ViewsB.of_drop 3 (by assumption) | exact ViewsB.of_drop 4 (by assumption) | exact ViewsB.of_drop 5 (by assumption) | exact ViewsB.of_drop 6 (by assumption) | exact ViewsB.of_drop 7 (by assumption) | exact ViewsB.of_drop 8 (by assumption) | exact ViewsB.of_drop 9 (by assumption) | exact ViewsB.of_drop 10 (by assumption) | exact ViewsB.of_drop 11 (by assumption) | exact ViewsB.of_drop 12 (by assumption)) (by omega) (by first | omega | (simp; done) | (simp; omega))) (by first | omega | (simp only [List.length_cons, List.length_nil]; omega) | (simp; done) | (simp; omega))) rfl ?_
         clear h a w; intro a w h
         obtain ⟨kd, hkd⟩ : ∃ kd, kd = ([3, 4] : List UInt8).getD (kind % 2).toNat 0 := ⟨_, rfl⟩
         rw [← hkd] at h
         have hkd2 : kd = 3 ∨ kd = 4 := by
           rcases (show (kind % 2).toNat = 0 ∨ (kind % 2).toNat = 1 by omega) with q | q <;> rw [q] at hkd
           · exact .inl hkd
           · exact .inr hkd
         refine wv h (r_build (cells := ⟨cellsE (sdC kd)⟩) h K.u_api_Elem K.z_api_Elem K.pl_api_Elem rfl (by kernel_rfl)) rfl ?_
         clear h a w; intro a w h
         refine wl rfl (op_build1 h K.u_api_Chart K.sz_api_Elem K.z_api_Elem rfl rfl rfl (by first | exact Row.len _ | rfl | assumption | (simp; done) | (simp; omega) | omega) rfl ?_)
         clear h a w; intro b63 a w h
         first
                  | (refine wl rfl (op_appendR1 h rfl rfl K.u_api_Chart K.sz_api_Elem K.z_api_Elem rfl rfl 0 rfl (by first | omega | (simp only [List.length_cons, List.length_nil]; omega) | (simp; done) | (simp; omega)) rfl ?_))
                  | (refine wl rfl (op_appendR1 h rfl rfl K.u_api_Chart K.sz_api_Elem K.z_api_Elem rfl rfl 1 rfl (by first | omega | (simp only [List.length_cons, List.length_nil]; omega) | (simp; done) | (simp; omega)) rfl ?_))
                  | (refine wl rfl (op_appendR1 h rfl rfl K.u_api_Chart K.sz_api_Elem K.z_api_Elem rfl rfl 2 rfl (by first | omega | (simp only [List.length_cons, List.length_nil]; omega) | (simp; done) | (simp; omega)) rfl ?_))
                  | (refine wl rfl (op_appendR1 h rfl rfl K.u_api_Chart K.sz_api_Elem K.z_api_Elem rfl rfl 3 rfl (by first | omega | (simp only [List.length_cons, List.length_nil]; omega) | (simp; done) | (simp; omega)) rfl ?_))
                  | (refine wl rfl (op_appendR1 h rfl rfl K.u_api_Chart K.sz_api_Elem K.z_api_Elem rfl rfl 4 rfl (by first | omega | (simp only [List.length_cons, List.length_nil]; omega) | (simp; done) | (simp; omega)) rfl ?_))
                  | (refine wl rfl (op_appendR1 h rfl rfl K.u_api_Chart K.sz_api_Elem K.z_api_Elem rfl rfl 5 rfl (by first | omega | (simp only [List.length_cons, List.length_nil]; omega) | (simp; done) | (simp; omega)) rfl ?_))
         clear h a w; intro v64 a w h
         (try simp only [List.set_cons_zero, List.set_cons_succ] at h)
         refine wv h (r_assign h rfl) rfl ?_
         clear h a w; intro a w h
         refine wnil (c_then ?_)
         refine c_region ?_
         refine wv h (r_build (cells := fD 8 1) h K.u_api_Fault K.z_api_Fault K.pl_api_Fault rfl (by kernel_rfl)) rfl ?_
         clear h a w; intro a w h
         first
                  | (refine wl rfl (op_stA h rfl rfl K.sz_api_Fault (by first | exact Row.len _ | rfl | assumption | (simp; done) | (simp; omega) | omega) (by first | exact Row.one _ | exact bs_one _ | assumption | (simp; done) | (simp; (repeat' apply And.intro) <;> first | rfl | assumption)) 0 rfl (by first | rfl | assumption | (simp; done) | (simp; omega) | omega) ?_))
                  | (refine wl rfl (op_stA h rfl rfl K.sz_api_Fault (by first | exact Row.len _ | rfl | assumption | (simp; done) | (simp; omega) | omega) (by first | exact Row.one _ | exact bs_one _ | assumption | (simp; done) | (simp; (repeat' apply And.intro) <;> first | rfl | assumption)) 1 rfl (by first | rfl | assumption | (simp; done) | (simp; omega) | omega) ?_))
                  | (refine wl rfl (op_stA h rfl rfl K.sz_api_Fault (by first | exact Row.len _ | rfl | assumption | (simp; done) | (simp; omega) | omega) (by first | exact Row.one _ | exact bs_one _ | assumption | (simp; done) | (simp; (repeat' apply And.intro) <;> first | rfl | assumption)) 2 rfl (by first | rfl | assumption | (simp; done) | (simp; omega) | omega) ?_))
                  | (refine wl rfl (op_stA h rfl rfl K.sz_api_Fault (by first | exact Row.len _ | rfl | assumption | (simp; done) | (simp; omega) | omega) (by first | exact Row.one _ | exact bs_one _ | assumption | (simp; done) | (simp; (repeat' apply And.intro) <;> first | rfl | assumption)) 3 rfl (by first | rfl | assumption | (simp; done) | (simp; omega) | omega) ?_))
                  | (refine wl rfl (op_stA h rfl rfl K.sz_api_Fault (by first | exact Row.len _ | rfl | assumption | (simp; done) | (simp; omega) | omega) (by first | exact Row.one _ | exact bs_one _ | assumption | (simp; done) | (simp; (repeat' apply And.intro) <;> first | rfl | assumption)) 4 rfl (by first | rfl | assumption | (simp; done) | (simp; omega) | omega) ?_))
                  | (refine wl rfl (op_stA h rfl rfl K.sz_api_Fault (by first | exact Row.len _ | rfl | assumption | (simp; done) | (simp; omega) | omega) (by first | exact Row.one _ | exact bs_one _ | assumption | (simp; done) | (simp; (repeat' apply And.intro) <;> first | rfl | assumption)) 5 rfl (by first | rfl | assumption | (simp; done) | (simp; omega) | omega) ?_))
         clear h a w; intro a w h
         (try simp only [List.set_cons_zero, List.set_cons_succ] at h)
         refine wnil ?_
         exact ⟨(v64, _, 8, 1), ⟨(h.keep [8, 11]).1, h.2.drop 1⟩, by rcases hkd2 with q | q <;> rw [q]; exact hd2; exact hd3⟩
       ·
        refine c_skip ?_
        exact ⟨(v, sideB i i, 0, 0), h.keep [8, 11], hd1⟩
      ·
       clear h a w; intro z a w hz h
       obtain ⟨cv, c, p, q⟩ := z
       dsimp only at hz h
       refine c_seq (c_draw K.mixed (by kernel_rfl) h ?_)
       clear h a w; intro a hE
       refine q_c hE rfl K.go_law11_awake (fun w hw => law11_awake s _ _ hw) rfl ?_
       clear hE a; intro a hE
       refine qv hE (fun w hw => r_move ⟨hE, hw⟩ rfl) rfl ?_
       clear hE a; intro a hE
       refine qvG hE (by first | exact .t rfl | exact .f rfl | exact .gt rfl | exact .gf rfl) (fun hg w hw => by (try simp only [↓gval_on hg, ↓gval_and hg] at hE); (have hg2 := hg; (try simp only [Bool.and_eq_true, Bool.or_eq_true, Bool.not_eq_true', decide_eq_true_eq, decide_eq_false_iff_not] at hg2)); first | exact r_move ⟨hE, hw⟩ rfl) rfl ?_
       clear hE a; intro a hE
       refine q_cG hE (by first | exact .t rfl | exact .f rfl | exact .gt rfl | exact .gf rfl) K.go_rules_Check (fun hg => by (try simp only [↓gval_on hg, ↓gval_and hg]); (have hg2 := hg; (try simp only [Bool.and_eq_true, Bool.or_eq_true, Bool.not_eq_true', decide_eq_true_eq, decide_eq_false_iff_not] at hg2)); exact ⟨_, rfl, fun w hw => rules_Check s _ _ _ _ (by first | exact Views.own 0 rfl | exact Views.own 1 rfl | exact Views.own 2 rfl | exact Views.own 3 rfl | exact Views.own 4 rfl | exact Views.own 5 rfl | assumption | exact Views.of_drop 1 (by assumption) | exact Views.of_drop 2 (by assumption) | exact Views.of_drop 3 (by assumption) | exact Views.of_drop 4 (by assumption) | exact Views.of_drop 5 (by assumption) | exact Views.of_drop 6 (by assumption) | exact Views.of_drop 7 (by assumption) | exact Views.of_drop 8 (by assumption) | exact Views.of_drop 9 (by assumption) | exact Views.of_drop 10 (by assumption) | exact Views.of_drop 11 (by assumption) | exact Views.of_drop 12 (by assumption)) hw⟩) rfl ?_
       clear hE a; intro a hE
       refine qvG hE (by first | exact .t rfl | exact .f rfl | exact .gt rfl | exact .gf rfl) (fun hg w hw => by (try simp only [↓gval_on hg, ↓gval_and hg] at hE); (have hg2 := hg; (try simp only [Bool.and_eq_true, Bool.or_eq_true, Bool.not_eq_true', decide_eq_true_eq, decide_eq_false_iff_not] at hg2)); first | exact r_ldA ⟨hE, hw⟩ rfl K.u_api_Fault rfl K.sz_api_Fault 0 rfl (by first | exact Row.len _ | rfl | assumption | (simp; done) | (simp; omega) | omega) | exact r_ldA ⟨hE, hw⟩ rfl K.u_api_Fault rfl K.sz_api_Fault 1 rfl (by first | exact Row.len _ | rfl | assumption | (simp; done) | (simp; omega) | omega) | exact r_ldA ⟨hE, hw⟩ rfl K.u_api_Fault rfl K.sz_api_Fault 2 rfl (by first | exact Row.len _ | rfl | assumption | (simp; done) | (simp; omega) | omega) | exact r_ldA ⟨hE, hw⟩ rfl K.u_api_Fault rfl K.sz_api_Fault 3 rfl (by first | exact Row.len _ | rfl | assumption | (simp; done) | (simp; omega) | omega) | exact r_ldA ⟨hE, hw⟩ rfl K.u_api_Fault rfl K.sz_api_Fault 4 rfl (by first | exact Row.len _ | rfl | assumption | (simp; done) | (simp; omega) | omega) | exact r_ldA ⟨hE, hw⟩ rfl K.u_api_Fault rfl K.sz_api_Fault 5 rfl (by first | exact Row.len _ | rfl | assumption | (simp; done) | (simp; omega) | omega) | exact r_loadCA ⟨hE, hw⟩ rfl K.u_api_Fault rfl K.sz_api_Fault (by assumption) (by first | rfl | assumption | (simp; done) | (simp; omega) | omega)) rfl ?_
       clear hE a; intro a hE
       refine qvg hE (fun w hw => r_faulteq ⟨hE, hw⟩ rfl rfl) rfl rfl ?_
       clear hE a; intro a hE
       first
              | (refine qv hE (fun w hw => r_pickA ⟨hE, hw⟩ rfl rfl rfl) rfl ?_)
              | (refine qv hE (fun w hw => r_pickO ⟨hE, hw⟩ rfl rfl rfl) rfl ?_)
              | (refine qv hE (fun w hw => r_pick_true ⟨hE, hw⟩ rfl rfl) rfl ?_)
              | (refine qv hE (fun w hw => r_pick_false ⟨hE, hw⟩ rfl rfl) rfl ?_)
              | (refine qv hE (fun w hw => r_pick ⟨hE, hw⟩ rfl rfl rfl) rfl ?_)
       clear hE a; intro a hE
       refine qv hE (fun w hw => r_assign ⟨hE, hw⟩ rfl) rfl ?_
       clear hE a; intro a hE
       refine qnil hE ?_
       clear hE a; intro a w h
       refine c_then ?_
       refine c_ret ?_
       exact ret1 h rfl rfl ⟨(), ret_true (by rw [hz]; simp), (by first | exact h.2 | exact h.2.drop 1 | exact h.2.drop 2 | exact h.2.drop 3 | exact h.2.drop 4 | exact h.2.drop 5 | exact h.2.drop 6 | exact h.2.drop 7 | exact h.2.drop 8 | exact h.2.drop 9 | exact h.2.drop 10 | exact h.2.drop 11 | exact h.2.drop 12 | exact h.2.drop 13 | exact h.2.drop 14 | exact h.2.drop 15 | exact h.2.drop 16), trivial⟩
end Go.Proofs.K
