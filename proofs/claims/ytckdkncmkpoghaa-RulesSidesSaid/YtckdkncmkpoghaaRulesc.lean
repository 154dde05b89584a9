/- The contract of Check; the law of layer 11 on any chart. -/
import Derived.Test.YtckdkncmkpoghaaRulesb
import Derived.Test.YtckdkncmkpoghaaField
set_option linter.unusedVariables false
set_option linter.unusedSimpArgs false
set_option maxRecDepth 10000
set_option maxHeartbeats 2000000
namespace Go.Proofs.K
open Go.Sl
attribute [local irreducible] Go.Sl.Own Go.Sl.Blk Go.Sl.Sep Go.Sl.Ex Go.Sl.Fact

def fv (f : Nat) : Value := .func (.func f) #[] #[]
def ruleF : List Nat := [n_rules_kinds, n_rules_names, n_rules_parents, n_rules_rings, n_rules_ends, n_rules_orders, n_rules_mixed]
theorem rules_fn {s : World} {v : Value} {l : List El} (hR : RightC l) {i f : Nat} (hf : ruleF[i]? = some f) (hk : 0 < i → ∀ x ∈ l, brk2 x = false) :
    isGo P f = true ∧ ∀ (e : El) (G : List HItem) (w : World), Views G 10 v l.length (l.flatMap cellsE) → Sat s w G → Calls P f (#[] ++ [v, .agg ⟨cellsE e⟩].toArray ++ #[]) w (Ret s (fun _ : Unit => .bool (brkE l e (i + 2))) (fun _ => G) (fun _ => True)) := by
  have hr := hR.2.2
  have hl : l.length ≤ 1000 := by have := hR.2.1; omega
  rcases i with _ | _ | _ | _ | _ | _ | _ | i
  · cases hf; exact ⟨go_rules_kinds, fun e G w hv hs => rules_kinds s w v e G hs⟩
  · cases hf; exact ⟨go_rules_names, fun e G w hv hs => rules_names s w v l e G hl hv hs⟩
  · cases hf; exact ⟨go_rules_parents, fun e G w hv hs => rules_parents s w v l e G hr hl hv hs⟩
  · cases hf; exact ⟨go_rules_rings, fun e G w hv hs => rules_rings s w v l e G hr hl hv hs⟩
  · cases hf; exact ⟨go_rules_ends, fun e G w hv hs => rules_ends s w v l e G (hk (by omega)) hr hl hv hs⟩
  · cases hf; exact ⟨go_rules_orders, fun e G w hv hs => rules_orders s w v l e G hl hv hs⟩
  · cases hf; exact ⟨go_rules_mixed, fun e G w hv hs => rules_mixed s w v l e G hr hl hv hs⟩
  · simp [ruleF] at hf

theorem rules_Check (s w : World) (v : Value) (l : List El) (F : List HItem) (hv : Views F 10 v l.length (l.flatMap cellsE)) (hs : Sat s w F) :
    Calls P n_rules_Check #[v] w (Ret s (fun _ : Unit => .agg ⟨[.int .i64 (checkR l).1, .int .i64 (checkR l).2]⟩) (fun _ => F) (fun _ => True)) := by
  have hlen := Views.len_le hv hs
  refine enter K.fn_rules_Check rfl K.nt_rules_Check rfl hs ?_
  clear hs w; intro a w h
  refine c_seq (c_region ?_)
  refine wl rfl (op_alloc h K.z_api_Fault rfl ?_)
  clear h a w; intro b2 a w h
  refine wnil (c_then ?_)
  refine c_seq ?_
  refine c_seq (c_region ?_)
  refine wv h (r_move h rfl) rfl ?_
  clear h a w; intro a w h
  refine wl rfl (op_call h rfl K.go_wire_Right (wire_Right s _ _ l _ (by first | exact Views.own 0 rfl | exact Views.own 1 rfl | exact Views.own 2 rfl | exact Views.own 3 rfl | exact Views.own 4 rfl | exact Views.own 5 rfl | assumption | exact Views.of_drop 1 (by assumption) | exact Views.of_drop 2 (by assumption) | exact Views.of_drop 3 (by assumption) | exact Views.of_drop 4 (by assumption) | exact Views.of_drop 5 (by assumption) | exact Views.of_drop 6 (by assumption) | exact Views.of_drop 7 (by assumption) | exact Views.of_drop 8 (by assumption) | exact Views.of_drop 9 (by assumption) | exact Views.of_drop 10 (by assumption) | exact Views.of_drop 11 (by assumption) | exact Views.of_drop 12 (by assumption)) h.2) rfl ?_)
  clear h a w; intro x a w hx h
  (try simp only [List.set_cons_zero, List.set_cons_succ] at h)
  refine wv h (r_not h rfl) rfl ?_
  clear h a w; intro a w h
  refine wnil (c_then ?_)
  refine c_cond h rfl (fun ht1 => ?_) (fun ht1 => ?_)
  ·
   have hr : checkR l = (1, 0) := by rw [checkR, if_neg (by simpa using ht1)]
   as_aux_lemma =>
    refine c_seq (c_region ?_)
    refine wv h (r_build (cells := ⟨[.int .i64 1, .int .i64 0]⟩) h K.u_api_Fault K.z_api_Fault K.pl_api_Fault rfl (by kernel_rfl)) rfl ?_
    clear h a w; intro a w h
    first
        | (refine wl rfl (op_stA h rfl rfl K.sz_api_Fault (by first | exact Row.len _ | rfl | assumption | (simp; done) | (simp; omega) | omega) (by first | exact Row.one _ | exact bs_one _ | assumption | (simp; done) | (simp; (repeat' apply And.intro) <;> first | rfl | assumption)) 0 rfl (by first | rfl | assumption | (simp; done) | (simp; omega) | omega) ?_))
        | (refine wl rfl (op_stA h rfl rfl K.sz_api_Fault (by first | exact Row.len _ | rfl | assumption | (simp; done) | (simp; omega) | omega) (by first | exact Row.one _ | exact bs_one _ | assumption | (simp; done) | (simp; (repeat' apply And.intro) <;> first | rfl | assumption)) 1 rfl (by first | rfl | assumption | (simp; done) | (simp; omega) | omega) ?_))
        | (refine wl rfl (op_stA h rfl rfl K.sz_api_Fault (by first | exact Row.len _ | rfl | assumption | (simp; done) | (simp; omega) | omega) (by first | exact Row.one _ | exact bs_one _ | assumption | (simp; done) | (simp; (repeat' apply And.intro) <;> first | rfl | assumption)) 2 rfl (by first | rfl | assumption | (simp; done) | (simp; omega) | omega) ?_))
        | (refine wl rfl (op_stA h rfl rfl K.sz_api_Fault (by first | exact Row.len _ | rfl | assumption | (simp; done) | (simp; omega) | omega) (by first | exact Row.one _ | exact bs_one _ | assumption | (simp; done) | (simp; (repeat' apply And.intro) <;> first | rfl | assumption)) 3 rfl (by first | rfl | assumption | (simp; done) | (simp; omega) | omega) ?_))
        | (refine wl rfl (op_stA h rfl rfl K.sz_api_Fault (by first | exact Row.len _ | rfl | assumption | (simp; done) | (simp; omega) | omega) (by first | exact Row.one _ | exact bs_one _ | assumption | (simp; done) | (simp; (repeat' apply And.intro) <;> first | rfl | assumption)) 4 rfl (by first | rfl | assumption | (simp; done) | (simp; omega) | omega) ?_))
        | (refine wl rfl (op_stA h rfl rfl K.sz_api_Fault (by first | exact Row.len _ | rfl | assumption | (simp; done) | (simp; omega) | omega) (by first | exact Row.one _ | exact bs_one _ | assumption | (simp; done) | (simp; (repeat' apply And.intro) <;> first | rfl | assumption)) 5 rfl (by first | rfl | assumption | (simp; done) | (simp; omega) | omega) ?_))
    clear h a w; intro a w h
    (try simp only [List.set_cons_zero, List.set_cons_succ] at h)
    refine wnil (c_then ?_)
    refine c_ret ?_
    exact retc h rfl rfl K.u_api_Fault rfl K.sz_api_Fault 0 rfl rfl ⟨(), by rw [hr], h.2.drop 1, trivial⟩
  ·
   have hb : rightB l = true := by simpa using ht1
   have hr : checkR l = checkL l 7 2 := by rw [checkR, if_pos hb]
   have hR := (rightB_iff l).1 hb
   refine c_skip ?_
   refine c_then ?_
   refine c_seq ?_
   refine c_seq (c_region ?_)
   refine wl rfl (op_buildO (vs := ruleF.map fv) h K.u_S_func_api_Chart_api_Elem_bool (show tsz P 77 = some (1, 8) by kernel_rfl) (show tzero P 77 = some .nilFunc by kernel_rfl) rfl rfl rfl rfl (by intro q hq; obtain ⟨f, _, rfl⟩ := List.mem_map.1 hq; rfl) rfl ?_)
   clear h a w; intro b11 a w h
   replace h := h.toOwnL (enc := fv) ruleF (NF.zero _) rfl rfl rfl
   obtain ⟨v11, hv11⟩ : ∃ v : Value, v = .slice (some ⟨b11, 0, none⟩) 7 7 := ⟨_, rfl⟩
   rw [show ruleF.length = 7 from rfl, ← hv11] at h
   refine wv h (r_lenV h rfl K.u_S_func_api_Chart_api_Elem_bool (by first | exact Views.own 0 rfl | exact Views.own 1 rfl | exact Views.own 2 rfl | exact Views.own 3 rfl | exact Views.own 4 rfl | exact Views.own 5 rfl | assumption | exact Views.of_drop 1 (by assumption) | exact Views.of_drop 2 (by assumption) | exact Views.of_drop 3 (by assumption) | exact Views.of_drop 4 (by assumption) | exact Views.of_drop 5 (by assumption) | exact Views.of_drop 6 (by assumption) | exact Views.of_drop 7 (by assumption) | exact Views.of_drop 8 (by assumption) | exact Views.of_drop 9 (by assumption) | exact Views.of_drop 10 (by assumption) | exact Views.of_drop 11 (by assumption) | exact Views.of_drop 12 (by assumption))) rfl ?_
   clear h a w; intro a w h
   refine wv h (r_move h rfl) rfl ?_
   clear h a w; intro a w h
   refine wnil (c_then ?_)
   refine c_block ?_
   refine c_loopX h (X := Nat) (fun i => [(0, v), (2, .pointer (some ⟨b2, 0, none⟩)), (11, v11), (12, .int .i64 7), (13, .int .i64 (i : Int))]) (fun _ => OwnL fv v11 ruleF :: Blk b2 (.cells #[.int .i64 0, .int .i64 0] t_api_Fault) :: F)
     (fun i => i ≤ 7 ∧ checkL l (7 - i) (i + 2) = checkL l 7 2 ∧ (0 < i → ∀ x ∈ l, brk2 x = false)) (fun i => 7 - i) 0 (h.keep [0, 2, 11, 12, 13]) ⟨Nat.zero_le _, rfl, fun q => absurd q (Nat.lt_irrefl 0)⟩ ?_
   clear h a w; intro i a w hx h
   obtain ⟨hx1, hx2, hx3⟩ := hx
   as_aux_lemma =>
    refine c_seq (c_region ?_)
    refine wv h (r_bin h rfl rfl (B.lss_int)) rfl ?_
    clear h a w; intro a w h
    refine wnil (c_then ?_)
    refine c_seq ?_
    first
     | refine c_condD h rfl (fun ht2 => ?_) (fun ht2 => ?_)
     | refine c_condP h rfl (by first | (simp only [Bool.and_eq_true, Bool.or_eq_true, Bool.not_eq_true', decide_eq_true_eq, decide_eq_false_iff_not, ne_eq, Bool.not_eq_eq_eq_not, Bool.not_true, beq_iff_eq, bne_iff_ne]; exact Iff.rfl) | exact Iff.rfl) (fun ht2 => ?_) (fun ht2 => ?_)
    ·
     rw [show 7 - i = (6 - i) + 1 by omega, checkL] at hx2
     obtain ⟨f, hf⟩ : ∃ f, ruleF[i]? = some f := ⟨ruleF[i]'(by show i < 7; omega), by simp⟩
     obtain ⟨hgo, hcall⟩ := rules_fn (s := s) (v := v) hR hf hx3
     refine c_skip ?_
     refine c_then ?_
     refine c_seq ?_
     refine c_block ?_
     refine c_seq (c_region ?_)
     refine wv h (r_move h rfl) rfl ?_
     clear h a w; intro a w h
     refine wv h (r_elP h rfl rfl K.u_S_func_api_Chart_api_Elem_bool (show tsz P 77 = some (1, 8) by kernel_rfl) (Views.own 0 rfl) (by omega) (by show i < 7; omega)) rfl ?_
     clear h a w; intro a w h
     refine wv h (r_elG h rfl Try.underlying77 rfl (Views.own 0 rfl) (u := fv f) (by simp [hf])) rfl ?_
     clear h a w; intro a w h
     refine wv h (r_assign h rfl) rfl ?_
     clear h a w; intro a w h
     refine wv h (r_assign h rfl) rfl ?_
     clear h a w; intro a w h
     refine wnil (c_then ?_)
     refine c_seq (c_region ?_)
     refine wv h (r_move h rfl) rfl ?_
     clear h a w; intro a w h
     refine wv h (r_lenV h rfl K.u_api_Chart (by first | exact Views.own 0 rfl | exact Views.own 1 rfl | exact Views.own 2 rfl | exact Views.own 3 rfl | exact Views.own 4 rfl | exact Views.own 5 rfl | assumption | exact Views.of_drop 1 (by assumption) | exact Views.of_drop 2 (by assumption) | exact Views.of_drop 3 (by assumption) | exact Views.of_drop 4 (by assumption) | exact Views.of_drop 5 (by assumption) | exact Views.of_drop 6 (by assumption) | exact Views.of_drop 7 (by assumption) | exact Views.of_drop 8 (by assumption) | exact Views.of_drop 9 (by assumption) | exact Views.of_drop 10 (by assumption) | exact Views.of_drop 11 (by assumption) | exact Views.of_drop 12 (by assumption))) rfl ?_
     clear h a w; intro a w h
     refine wv h (r_move h rfl) rfl ?_
     clear h a w; intro a w h
     refine wnil (c_then ?_)
     refine c_block ?_
     refine c_loopX h (X := Nat) (fun k => [(0, v), (2, .pointer (some ⟨b2, 0, none⟩)), (3, .int .i64 (i : Int)), (4, fv f), (11, v11), (12, .int .i64 7), (13, .int .i64 (i : Int)), (18, v), (19, .int .i64 (l.length : Int)), (20, .int .i64 (k : Int))]) (fun _ => OwnL fv v11 ruleF :: Blk b2 (.cells #[.int .i64 0, .int .i64 0] t_api_Fault) :: F)
       (fun k => k ≤ l.length ∧ hitE l (i + 2) (l.drop k) = hitE l (i + 2) l) (fun k => l.length - k) 0 (h.keep [0, 2, 3, 4, 11, 12, 13, 18, 19, 20]) ⟨Nat.zero_le _, rfl⟩ ?_
     clear h a w; intro k a w hx h
     obtain ⟨hk1, hk2⟩ := hx
     as_aux_lemma =>
      refine c_seq (c_region ?_)
      refine wv h (r_bin h rfl rfl (B.lss_int)) rfl ?_
      clear h a w; intro a w h
      refine wnil (c_then ?_)
      refine c_seq ?_
      first
       | refine c_condD h rfl (fun ht3 => ?_) (fun ht3 => ?_)
       | refine c_condP h rfl (by first | (simp only [Bool.and_eq_true, Bool.or_eq_true, Bool.not_eq_true', decide_eq_true_eq, decide_eq_false_iff_not, ne_eq, Bool.not_eq_eq_eq_not, Bool.not_true, beq_iff_eq, bne_iff_ne]; exact Iff.rfl) | exact Iff.rfl) (fun ht3 => ?_) (fun ht3 => ?_)
      ·
       obtain ⟨e, hee⟩ := get_some (l := l) (i := k) (by omega)
       rw [hitE_drop hee] at hk2
       refine c_skip ?_
       refine c_then ?_
       refine c_seq ?_
       refine c_block ?_
       refine c_seq (c_region ?_)
       refine wv h (r_elP h rfl rfl K.u_api_Chart K.sz_api_Elem (by first | exact Views.own 0 rfl | exact Views.own 1 rfl | exact Views.own 2 rfl | exact Views.own 3 rfl | exact Views.own 4 rfl | exact Views.own 5 rfl | assumption | exact Views.of_drop 1 (by assumption) | exact Views.of_drop 2 (by assumption) | exact Views.of_drop 3 (by assumption) | exact Views.of_drop 4 (by assumption) | exact Views.of_drop 5 (by assumption) | exact Views.of_drop 6 (by assumption) | exact Views.of_drop 7 (by assumption) | exact Views.of_drop 8 (by assumption) | exact Views.of_drop 9 (by assumption) | exact Views.of_drop 10 (by assumption) | exact Views.of_drop 11 (by assumption) | exact Views.of_drop 12 (by assumption)) (by first | omega | (simp; done)) (by first | omega | (simp only [List.length_cons, List.length_nil]; omega) | (simp; done) | (simp; omega))) rfl ?_
       clear h a w; intro a w h
       first
              | (refine wv h (r_elM h rfl K.u_api_Elem rfl K.sz_api_Elem rfl (by first | exact Views.own 0 rfl | exact Views.own 1 rfl | exact Views.own 2 rfl | exact Views.own 3 rfl | exact Views.own 4 rfl | exact Views.own 5 rfl | assumption | exact Views.of_drop 1 (by assumption) | exact Views.of_drop 2 (by assumption) | exact Views.of_drop 3 (by assumption) | exact Views.of_drop 4 (by assumption) | exact Views.of_drop 5 (by assumption) | exact Views.of_drop 6 (by assumption) | exact Views.of_drop 7 (by assumption) | exact Views.of_drop 8 (by assumption) | exact Views.of_drop 9 (by assumption) | exact Views.of_drop 10 (by assumption) | exact Views.of_drop 11 (by assumption) | exact Views.of_drop 12 (by assumption)) (by assumption)) rfl ?_)
              | (refine wv h (r_elMd h rfl K.u_api_Elem rfl K.sz_api_Elem rfl (by first | exact Views.own 0 rfl | exact Views.own 1 rfl | exact Views.own 2 rfl | exact Views.own 3 rfl | exact Views.own 4 rfl | exact Views.own 5 rfl | assumption | exact Views.of_drop 1 (by assumption) | exact Views.of_drop 2 (by assumption) | exact Views.of_drop 3 (by assumption) | exact Views.of_drop 4 (by assumption) | exact Views.of_drop 5 (by assumption) | exact Views.of_drop 6 (by assumption) | exact Views.of_drop 7 (by assumption) | exact Views.of_drop 8 (by assumption) | exact Views.of_drop 9 (by assumption) | exact Views.of_drop 10 (by assumption) | exact Views.of_drop 11 (by assumption) | exact Views.of_drop 12 (by assumption)) (by first | omega | (simp only [List.length_cons, List.length_nil]; omega) | (simp; done) | (simp; omega))) rfl ?_)
       clear h a w; intro a w h
       refine wl rfl (op_alloc h K.z_api_Elem rfl ?_)
       clear h a w; intro b6 a w h
       first
              | (refine wl rfl (op_stA h rfl rfl K.sz_api_Elem (by first | exact Row.len _ | rfl | assumption | (simp; done) | (simp; omega) | omega) (by first | exact Row.one _ | exact bs_one _ | assumption | (simp; done) | (simp; (repeat' apply And.intro) <;> first | rfl | assumption)) 0 rfl (by first | rfl | assumption | (simp; done) | (simp; omega) | omega) ?_))
              | (refine wl rfl (op_stA h rfl rfl K.sz_api_Elem (by first | exact Row.len _ | rfl | assumption | (simp; done) | (simp; omega) | omega) (by first | exact Row.one _ | exact bs_one _ | assumption | (simp; done) | (simp; (repeat' apply And.intro) <;> first | rfl | assumption)) 1 rfl (by first | rfl | assumption | (simp; done) | (simp; omega) | omega) ?_))
              | (refine wl rfl (op_stA h rfl rfl K.sz_api_Elem (by first | exact Row.len _ | rfl | assumption | (simp; done) | (simp; omega) | omega) (by first | exact Row.one _ | exact bs_one _ | assumption | (simp; done) | (simp; (repeat' apply And.intro) <;> first | rfl | assumption)) 2 rfl (by first | rfl | assumption | (simp; done) | (simp; omega) | omega) ?_))
              | (refine wl rfl (op_stA h rfl rfl K.sz_api_Elem (by first | exact Row.len _ | rfl | assumption | (simp; done) | (simp; omega) | omega) (by first | exact Row.one _ | exact bs_one _ | assumption | (simp; done) | (simp; (repeat' apply And.intro) <;> first | rfl | assumption)) 3 rfl (by first | rfl | assumption | (simp; done) | (simp; omega) | omega) ?_))
              | (refine wl rfl (op_stA h rfl rfl K.sz_api_Elem (by first | exact Row.len _ | rfl | assumption | (simp; done) | (simp; omega) | omega) (by first | exact Row.one _ | exact bs_one _ | assumption | (simp; done) | (simp; (repeat' apply And.intro) <;> first | rfl | assumption)) 4 rfl (by first | rfl | assumption | (simp; done) | (simp; omega) | omega) ?_))
              | (refine wl rfl (op_stA h rfl rfl K.sz_api_Elem (by first | exact Row.len _ | rfl | assumption | (simp; done) | (simp; omega) | omega) (by first | exact Row.one _ | exact bs_one _ | assumption | (simp; done) | (simp; (repeat' apply And.intro) <;> first | rfl | assumption)) 5 rfl (by first | rfl | assumption | (simp; done) | (simp; omega) | omega) ?_))
       clear h a w; intro a w h
       (try simp only [List.set_cons_zero, List.set_cons_succ] at h)
       refine wnil (c_then ?_)
       refine c_seq (c_region ?_)
       refine wv h (r_move h rfl) rfl ?_
       clear h a w; intro a w h
       refine wv h (r_move h rfl) rfl ?_
       clear h a w; intro a w h
       first
              | (refine wv h (r_ldA h rfl K.u_api_Elem rfl K.sz_api_Elem 0 rfl (by first | exact Row.len _ | rfl | assumption | (simp; done) | (simp; omega) | omega)) rfl ?_)
              | (refine wv h (r_ldA h rfl K.u_api_Elem rfl K.sz_api_Elem 1 rfl (by first | exact Row.len _ | rfl | assumption | (simp; done) | (simp; omega) | omega)) rfl ?_)
              | (refine wv h (r_ldA h rfl K.u_api_Elem rfl K.sz_api_Elem 2 rfl (by first | exact Row.len _ | rfl | assumption | (simp; done) | (simp; omega) | omega)) rfl ?_)
              | (refine wv h (r_ldA h rfl K.u_api_Elem rfl K.sz_api_Elem 3 rfl (by first | exact Row.len _ | rfl | assumption | (simp; done) | (simp; omega) | omega)) rfl ?_)
              | (refine wv h (r_ldA h rfl K.u_api_Elem rfl K.sz_api_Elem 4 rfl (by first | exact Row.len _ | rfl | assumption | (simp; done) | (simp; omega) | omega)) rfl ?_)
              | (refine wv h (r_ldA h rfl K.u_api_Elem rfl K.sz_api_Elem 5 rfl (by first | exact Row.len _ | rfl | assumption | (simp; done) | (simp; omega) | omega)) rfl ?_)
              | (refine wv h (r_loadCA h rfl K.u_api_Elem rfl K.sz_api_Elem (by assumption) (by first | rfl | assumption | (simp; done) | (simp; omega) | omega)) rfl ?_)
       clear h a w; intro a w h
       refine wl rfl (op_callV h rfl rfl hgo (hcall e _ _ (((hv.cons _).cons _).cons _) h.2) rfl ?_)
       clear h a w; intro x a w hx h
       refine wnil (c_then ?_)
       refine c_cond h rfl (fun ht4 => ?_) (fun ht4 => ?_)
       ·
        rw [if_pos ht4] at hk2
        rw [← hk2] at hx2
        as_aux_lemma =>
         refine c_seq (c_region ?_)
         refine wv h (r_move h rfl) rfl ?_
         clear h a w; intro a w h
         refine wv h (r_bin h rfl rfl (B.add_i64 (by omega) (by omega))) rfl ?_
         clear h a w; intro a w h
         rw [show (2 : Int) + (i : Int) = ((i + 2 : Nat) : Int) by omega] at h
         refine wv h (r_fieldAddr0 h rfl K.u_api_Elem rfl K.sz_int rfl rfl) rfl ?_
         clear h a w; intro a w h
         first
                  | (refine wv h (r_ldN h rfl K.u_int rfl 0 rfl rfl) rfl ?_)
                  | (refine wv h (r_ldN h rfl K.u_int rfl 1 rfl rfl) rfl ?_)
                  | (refine wv h (r_ldN h rfl K.u_int rfl 2 rfl rfl) rfl ?_)
                  | (refine wv h (r_ldN h rfl K.u_int rfl 3 rfl rfl) rfl ?_)
                  | (refine wv h (r_ldN h rfl K.u_int rfl 4 rfl rfl) rfl ?_)
                  | (refine wv h (r_ldN h rfl K.u_int rfl 5 rfl rfl) rfl ?_)
                  | (refine wv h (r_ldN h rfl K.u_int rfl 6 rfl rfl) rfl ?_)
                  | (refine wv h (r_ldC (o := 0) h rfl K.u_int rfl 0 rfl) rfl ?_)
                  | (refine wv h (r_ldC (o := 0) h rfl K.u_int rfl 1 rfl) rfl ?_)
                  | (refine wv h (r_ldC (o := 0) h rfl K.u_int rfl 2 rfl) rfl ?_)
                  | (refine wv h (r_ldC (o := 0) h rfl K.u_int rfl 3 rfl) rfl ?_)
                  | (refine wv h (r_ldC (o := 0) h rfl K.u_int rfl 4 rfl) rfl ?_)
                  | (refine wv h (r_ldC (o := 0) h rfl K.u_int rfl 5 rfl) rfl ?_)
                  | (refine wv h (r_ldC (o := 0) h rfl K.u_int rfl 6 rfl) rfl ?_)
                  | (refine wv h (r_load h rfl K.u_int rfl 0 rfl rfl) rfl ?_)
                  | (refine wv h (r_load h rfl K.u_int rfl 1 rfl rfl) rfl ?_)
                  | (refine wv h (r_load h rfl K.u_int rfl 2 rfl rfl) rfl ?_)
                  | (refine wv h (r_load h rfl K.u_int rfl 3 rfl rfl) rfl ?_)
                  | (refine wv h (r_load h rfl K.u_int rfl 4 rfl rfl) rfl ?_)
                  | (refine wv h (r_load h rfl K.u_int rfl 5 rfl rfl) rfl ?_)
                  | (refine wv h (r_load1 h rfl K.u_int rfl (by assumption)) rfl ?_)
         clear h a w; intro a w h
         refine wv h (r_build (cells := ⟨[.int .i64 ((i + 2 : Nat) : Int), .int .i64 e.id]⟩) h K.u_api_Fault K.z_api_Fault K.pl_api_Fault rfl (by kernel_rfl)) rfl ?_
         clear h a w; intro a w h
         first
                  | (refine wl rfl (op_stA h rfl rfl K.sz_api_Fault (by first | exact Row.len _ | rfl | assumption | (simp; done) | (simp; omega) | omega) (by first | exact Row.one _ | exact bs_one _ | assumption | (simp; done) | (simp; (repeat' apply And.intro) <;> first | rfl | assumption)) 0 rfl (by first | rfl | assumption | (simp; done) | (simp; omega) | omega) ?_))
                  | (refine wl rfl (op_stA h rfl rfl K.sz_api_Fault (by first | exact Row.len _ | rfl | assumption | (simp; done) | (simp; omega) | omega) (by first | exact Row.one _ | exact bs_one _ | assumption | (simp; done) | (simp; (repeat' apply And.intro) <;> first | rfl | assumption)) 1 rfl (by first | rfl | assumption | (simp; done) | (simp; omega) | omega) ?_))
                  | (refine wl rfl (op_stA h rfl rfl K.sz_api_Fault (by first | exact Row.len _ | rfl | assumption | (simp; done) | (simp; omega) | omega) (by first | exact Row.one _ | exact bs_one _ | assumption | (simp; done) | (simp; (repeat' apply And.intro) <;> first | rfl | assumption)) 2 rfl (by first | rfl | assumption | (simp; done) | (simp; omega) | omega) ?_))
                  | (refine wl rfl (op_stA h rfl rfl K.sz_api_Fault (by first | exact Row.len _ | rfl | assumption | (simp; done) | (simp; omega) | omega) (by first | exact Row.one _ | exact bs_one _ | assumption | (simp; done) | (simp; (repeat' apply And.intro) <;> first | rfl | assumption)) 3 rfl (by first | rfl | assumption | (simp; done) | (simp; omega) | omega) ?_))
                  | (refine wl rfl (op_stA h rfl rfl K.sz_api_Fault (by first | exact Row.len _ | rfl | assumption | (simp; done) | (simp; omega) | omega) (by first | exact Row.one _ | exact bs_one _ | assumption | (simp; done) | (simp; (repeat' apply And.intro) <;> first | rfl | assumption)) 4 rfl (by first | rfl | assumption | (simp; done) | (simp; omega) | omega) ?_))
                  | (refine wl rfl (op_stA h rfl rfl K.sz_api_Fault (by first | exact Row.len _ | rfl | assumption | (simp; done) | (simp; omega) | omega) (by first | exact Row.one _ | exact bs_one _ | assumption | (simp; done) | (simp; (repeat' apply And.intro) <;> first | rfl | assumption)) 5 rfl (by first | rfl | assumption | (simp; done) | (simp; omega) | omega) ?_))
         clear h a w; intro a w h
         (try simp only [List.set_cons_zero, List.set_cons_succ] at h)
         refine wnil (c_then ?_)
         refine c_ret ?_
         exact retc h rfl rfl K.u_api_Fault rfl K.sz_api_Fault 2 rfl rfl ⟨(), by rw [hr, ← hx2], h.2.drop 3, trivial⟩
       ·
        refine c_skip ?_
        refine b_normal ?_
        refine c_then ?_
        refine c_region ?_
        refine wv h (r_bin h rfl rfl (B.add_i64 (by omega) (by omega))) rfl ?_
        clear h a w; intro a w h
        refine wv h (r_move h rfl) rfl ?_
        clear h a w; intro a w h
        refine wnil ?_
        rw [if_neg (by simp [ht4])] at hk2
        exact ⟨k + 1, (h.drop 1).keep [0, 2, 3, 4, 11, 12, 13, 18, 19, 20], ⟨by omega, hk2⟩, by show l.length - (k + 1) < l.length - k; omega⟩
      ·
       obtain rfl : k = l.length := by omega
       rw [List.drop_length, hitE] at hk2
       rw [← hk2] at hx2
       refine c_exit ?_
       refine e_then ?_
       refine e_then ?_
       refine e_here ?_
       refine b_normal ?_
       refine c_then ?_
       refine c_region ?_
       refine wv h (r_bin h rfl rfl (B.add_i64 (by omega) (by omega))) rfl ?_
       clear h a w; intro a w h
       refine wv h (r_move h rfl) rfl ?_
       clear h a w; intro a w h
       refine wnil ?_
       refine ⟨i + 1, h.keep [0, 2, 11, 12, 13], ⟨by omega, by rw [show 7 - (i + 1) = 6 - i by omega]; exact hx2, fun _ => ?_⟩, by show 7 - (i + 1) < 7 - i; omega⟩
       rcases Nat.eq_zero_or_pos i with q | q
       · subst q
         exact hitE_none.1 hk2.symm
       · exact hx3 q
    ·
     obtain rfl : i = 7 := by omega
     rw [Nat.sub_self, checkL] at hx2
     refine c_exit ?_
     refine e_then ?_
     refine e_then ?_
     refine e_here ?_
     refine c_then ?_
     refine c_seq (c_region ?_)
     refine wv h (r_build (cells := ⟨[.int .i64 0, .int .i64 0]⟩) h K.u_api_Fault K.z_api_Fault K.pl_api_Fault rfl (by kernel_rfl)) rfl ?_
     clear h a w; intro a w h
     first
          | (refine wl rfl (op_stA h rfl rfl K.sz_api_Fault (by first | exact Row.len _ | rfl | assumption | (simp; done) | (simp; omega) | omega) (by first | exact Row.one _ | exact bs_one _ | assumption | (simp; done) | (simp; (repeat' apply And.intro) <;> first | rfl | assumption)) 0 rfl (by first | rfl | assumption | (simp; done) | (simp; omega) | omega) ?_))
          | (refine wl rfl (op_stA h rfl rfl K.sz_api_Fault (by first | exact Row.len _ | rfl | assumption | (simp; done) | (simp; omega) | omega) (by first | exact Row.one _ | exact bs_one _ | assumption | (simp; done) | (simp; (repeat' apply And.intro) <;> first | rfl | assumption)) 1 rfl (by first | rfl | assumption | (simp; done) | (simp; omega) | omega) ?_))
          | (refine wl rfl (op_stA h rfl rfl K.sz_api_Fault (by first | exact Row.len _ | rfl | assumption | (simp; done) | (simp; omega) | omega) (by first | exact Row.one _ | exact bs_one _ | assumption | (simp; done) | (simp; (repeat' apply And.intro) <;> first | rfl | assumption)) 2 rfl (by first | rfl | assumption | (simp; done) | (simp; omega) | omega) ?_))
          | (refine wl rfl (op_stA h rfl rfl K.sz_api_Fault (by first | exact Row.len _ | rfl | assumption | (simp; done) | (simp; omega) | omega) (by first | exact Row.one _ | exact bs_one _ | assumption | (simp; done) | (simp; (repeat' apply And.intro) <;> first | rfl | assumption)) 3 rfl (by first | rfl | assumption | (simp; done) | (simp; omega) | omega) ?_))
          | (refine wl rfl (op_stA h rfl rfl K.sz_api_Fault (by first | exact Row.len _ | rfl | assumption | (simp; done) | (simp; omega) | omega) (by first | exact Row.one _ | exact bs_one _ | assumption | (simp; done) | (simp; (repeat' apply And.intro) <;> first | rfl | assumption)) 4 rfl (by first | rfl | assumption | (simp; done) | (simp; omega) | omega) ?_))
          | (refine wl rfl (op_stA h rfl rfl K.sz_api_Fault (by first | exact Row.len _ | rfl | assumption | (simp; done) | (simp; omega) | omega) (by first | exact Row.one _ | exact bs_one _ | assumption | (simp; done) | (simp; (repeat' apply And.intro) <;> first | rfl | assumption)) 5 rfl (by first | rfl | assumption | (simp; done) | (simp; omega) | omega) ?_))
     clear h a w; intro a w h
     (try simp only [List.set_cons_zero, List.set_cons_succ] at h)
     refine wnil (c_then ?_)
     refine c_ret ?_
     exact retc h rfl rfl K.u_api_Fault rfl K.sz_api_Fault 1 rfl rfl ⟨(), by rw [hr, ← hx2], h.2.drop 2, trivial⟩

theorem fault_flat (a b c d : Int) : FlatEq P (P.fieldsOf t_api_Fault).toList 0 [.int .i64 a, .int .i64 b] [.int .i64 c, .int .i64 d] (decide (a = c) && (decide (b = d) && true)) := by
  unfold Program.fieldsOf
  rw [u_api_Fault]
  exact .int u_int rfl (by decide) (.int u_int rfl (by decide) .nil)
theorem r_faulteq {n : Nat} {s w : World} {a : Act} {E : List (Nat × Value)} {L : List HItem} {ty yt : TypeId} {pos : String} {dst : Option Nat} {aft : Array Edge} {g : Option (Nat × Bool)} (h : St n s a w E L) {x y : Operand} {p q p' q' : Int} (hx : ev E x = some (.agg ⟨[.int .i64 p, .int .i64 q]⟩)) (hy : ev E y = some (.agg ⟨[.int .i64 p', .int .i64 q']⟩)) :
    (execOp a.eval ⟨dst, .binOp .eql t_api_Fault x y yt, ty, pos, aft, g⟩).run P w = .ok (.value (.bool (decide (p = p' ∧ q = q')))) w := by
  have := r_streq2 (dst := dst) (ty := ty) (pos := pos) (aft := aft) (g := g) (xt := t_api_Fault) (yt := yt) h hx hy (by unfold Program.fieldsOf; rw [u_api_Fault]) (by kernel_rfl) (by kernel_rfl) (fault_flat p q p' q')
  rw [this, show (decide (p = p') && (decide (q = q') && true)) = decide (p = p' ∧ q = q') by rw [Bool.and_true, Bool.decide_and]]

def elR : El := ⟨1, 2, 0, 0, [114], 0, 0, [], [], []⟩
theorem law11_awake (s w : World) (F : List HItem) (hs : Sat s w F) : Calls P n_law11_awake #[] w (Ret s (fun _ : Unit => .bool true) (fun _ => F) (fun _ => True)) := by
  have h1 : checkR [elR] = (4, 1) := by decide
  refine enter K.fn_law11_awake rfl K.nt_law11_awake rfl hs ?_
  clear hs w; intro a w h
  refine c_seq (c_region ?_)
  refine wv h (r_assign h rfl) rfl ?_
  clear h a w; intro a w h
  refine wnil (c_then ?_)
  refine c_seq (c_region ?_)
  refine wv h (r_build (cells := ⟨cellsE elR⟩) h K.u_api_Elem K.z_api_Elem K.pl_api_Elem rfl (by kernel_rfl)) rfl ?_
  clear h a w; intro a w h
  refine wl rfl (op_build1 h K.u_api_Chart K.sz_api_Elem K.z_api_Elem rfl rfl rfl (by first | exact Row.len _ | rfl | assumption | (simp; done) | (simp; omega) | omega) rfl ?_)
  clear h a w; intro b4 a w h
  replace h := h.toOwnM (size := 10) (cells := cellsE) (N := 1) [elR] (NF.zero _) rfl rfl rfl
  refine wl rfl (op_call h rfl K.go_rules_Check (rules_Check s _ _ [elR] _ (Views.own 0 rfl) h.2) rfl ?_)
  clear h a w; intro x a w hx h
  (try simp only [List.set_cons_zero, List.set_cons_succ] at h)
  rw [h1] at h
  refine wl rfl (op_alloc h K.z_api_Fault rfl ?_)
  clear h a w; intro b1 a w h
  first
    | (refine wl rfl (op_stA h rfl rfl K.sz_api_Fault (by first | exact Row.len _ | rfl | assumption | (simp; done) | (simp; omega) | omega) (by first | exact Row.one _ | exact bs_one _ | assumption | (simp; done) | (simp; (repeat' apply And.intro) <;> first | rfl | assumption)) 0 rfl (by first | rfl | assumption | (simp; done) | (simp; omega) | omega) ?_))
    | (refine wl rfl (op_stA h rfl rfl K.sz_api_Fault (by first | exact Row.len _ | rfl | assumption | (simp; done) | (simp; omega) | omega) (by first | exact Row.one _ | exact bs_one _ | assumption | (simp; done) | (simp; (repeat' apply And.intro) <;> first | rfl | assumption)) 1 rfl (by first | rfl | assumption | (simp; done) | (simp; omega) | omega) ?_))
    | (refine wl rfl (op_stA h rfl rfl K.sz_api_Fault (by first | exact Row.len _ | rfl | assumption | (simp; done) | (simp; omega) | omega) (by first | exact Row.one _ | exact bs_one _ | assumption | (simp; done) | (simp; (repeat' apply And.intro) <;> first | rfl | assumption)) 2 rfl (by first | rfl | assumption | (simp; done) | (simp; omega) | omega) ?_))
    | (refine wl rfl (op_stA h rfl rfl K.sz_api_Fault (by first | exact Row.len _ | rfl | assumption | (simp; done) | (simp; omega) | omega) (by first | exact Row.one _ | exact bs_one _ | assumption | (simp; done) | (simp; (repeat' apply And.intro) <;> first | rfl | assumption)) 3 rfl (by first | rfl | assumption | (simp; done) | (simp; omega) | omega) ?_))
    | (refine wl rfl (op_stA h rfl rfl K.sz_api_Fault (by first | exact Row.len _ | rfl | assumption | (simp; done) | (simp; omega) | omega) (by first | exact Row.one _ | exact bs_one _ | assumption | (simp; done) | (simp; (repeat' apply And.intro) <;> first | rfl | assumption)) 4 rfl (by first | rfl | assumption | (simp; done) | (simp; omega) | omega) ?_))
    | (refine wl rfl (op_stA h rfl rfl K.sz_api_Fault (by first | exact Row.len _ | rfl | assumption | (simp; done) | (simp; omega) | omega) (by first | exact Row.one _ | exact bs_one _ | assumption | (simp; done) | (simp; (repeat' apply And.intro) <;> first | rfl | assumption)) 5 rfl (by first | rfl | assumption | (simp; done) | (simp; omega) | omega) ?_))
  clear h a w; intro a w h
  (try simp only [List.set_cons_zero, List.set_cons_succ] at h)
  refine wnil (c_then ?_)
  refine c_seq (c_region ?_)
  refine wl rfl (op_call h rfl K.go_rules_Check (rules_Check s _ _ [] _ (Views.nil _ 10) h.2) rfl ?_)
  clear h a w; intro x a w hx h
  (try simp only [List.set_cons_zero, List.set_cons_succ] at h)
  rw [checkR_nil] at h
  refine wl rfl (op_alloc h K.z_api_Fault rfl ?_)
  clear h a w; intro b2 a w h
  first
    | (refine wl rfl (op_stA h rfl rfl K.sz_api_Fault (by first | exact Row.len _ | rfl | assumption | (simp; done) | (simp; omega) | omega) (by first | exact Row.one _ | exact bs_one _ | assumption | (simp; done) | (simp; (repeat' apply And.intro) <;> first | rfl | assumption)) 0 rfl (by first | rfl | assumption | (simp; done) | (simp; omega) | omega) ?_))
    | (refine wl rfl (op_stA h rfl rfl K.sz_api_Fault (by first | exact Row.len _ | rfl | assumption | (simp; done) | (simp; omega) | omega) (by first | exact Row.one _ | exact bs_one _ | assumption | (simp; done) | (simp; (repeat' apply And.intro) <;> first | rfl | assumption)) 1 rfl (by first | rfl | assumption | (simp; done) | (simp; omega) | omega) ?_))
    | (refine wl rfl (op_stA h rfl rfl K.sz_api_Fault (by first | exact Row.len _ | rfl | assumption | (simp; done) | (simp; omega) | omega) (by first | exact Row.one _ | exact bs_one _ | assumption | (simp; done) | (simp; (repeat' apply And.intro) <;> first | rfl | assumption)) 2 rfl (by first | rfl | assumption | (simp; done) | (simp; omega) | omega) ?_))
    | (refine wl rfl (op_stA h rfl rfl K.sz_api_Fault (by first | exact Row.len _ | rfl | assumption | (simp; done) | (simp; omega) | omega) (by first | exact Row.one _ | exact bs_one _ | assumption | (simp; done) | (simp; (repeat' apply And.intro) <;> first | rfl | assumption)) 3 rfl (by first | rfl | assumption | (simp; done) | (simp; omega) | omega) ?_))
    | (refine wl rfl (op_stA h rfl rfl K.sz_api_Fault (by first | exact Row.len _ | rfl | assumption | (simp; done) | (simp; omega) | omega) (by first | exact Row.one _ | exact bs_one _ | assumption | (simp; done) | (simp; (repeat' apply And.intro) <;> first | rfl | assumption)) 4 rfl (by first | rfl | assumption | (simp; done) | (simp; omega) | omega) ?_))
    | (refine wl rfl (op_stA h rfl rfl K.sz_api_Fault (by first | exact Row.len _ | rfl | assumption | (simp; done) | (simp; omega) | omega) (by first | exact Row.one _ | exact bs_one _ | assumption | (simp; done) | (simp; (repeat' apply And.intro) <;> first | rfl | assumption)) 5 rfl (by first | rfl | assumption | (simp; done) | (simp; omega) | omega) ?_))
  clear h a w; intro a w h
  (try simp only [List.set_cons_zero, List.set_cons_succ] at h)
  refine wnil (c_then ?_)
  refine c_seq (c_region ?_)
  refine wv h (r_fieldAddr0 h rfl K.u_api_Fault rfl K.sz_int rfl rfl) rfl ?_
  clear h a w; intro a w h
  first
    | (refine wv h (r_ldN h rfl K.u_int rfl 0 rfl rfl) rfl ?_)
    | (refine wv h (r_ldN h rfl K.u_int rfl 1 rfl rfl) rfl ?_)
    | (refine wv h (r_ldN h rfl K.u_int rfl 2 rfl rfl) rfl ?_)
    | (refine wv h (r_ldN h rfl K.u_int rfl 3 rfl rfl) rfl ?_)
    | (refine wv h (r_ldN h rfl K.u_int rfl 4 rfl rfl) rfl ?_)
    | (refine wv h (r_ldN h rfl K.u_int rfl 5 rfl rfl) rfl ?_)
    | (refine wv h (r_ldN h rfl K.u_int rfl 6 rfl rfl) rfl ?_)
    | (refine wv h (r_ldC (o := 0) h rfl K.u_int rfl 0 rfl) rfl ?_)
    | (refine wv h (r_ldC (o := 0) h rfl K.u_int rfl 1 rfl) rfl ?_)
    | (refine wv h (r_ldC (o := 0) h rfl K.u_int rfl 2 rfl) rfl ?_)
    | (refine wv h (r_ldC (o := 0) h rfl K.u_int rfl 3 rfl) rfl ?_)
    | (refine wv h (r_ldC (o := 0) h rfl K.u_int rfl 4 rfl) rfl ?_)
    | (refine wv h (r_ldC (o := 0) h rfl K.u_int rfl 5 rfl) rfl ?_)
    | (refine wv h (r_ldC (o := 0) h rfl K.u_int rfl 6 rfl) rfl ?_)
    | (refine wv h (r_load h rfl K.u_int rfl 0 rfl rfl) rfl ?_)
    | (refine wv h (r_load h rfl K.u_int rfl 1 rfl rfl) rfl ?_)
    | (refine wv h (r_load h rfl K.u_int rfl 2 rfl rfl) rfl ?_)
    | (refine wv h (r_load h rfl K.u_int rfl 3 rfl rfl) rfl ?_)
    | (refine wv h (r_load h rfl K.u_int rfl 4 rfl rfl) rfl ?_)
    | (refine wv h (r_load h rfl K.u_int rfl 5 rfl rfl) rfl ?_)
    | (refine wv h (r_load1 h rfl K.u_int rfl (by assumption)) rfl ?_)
  clear h a w; intro a w h
  refine wv h (r_bin h rfl rfl (B.eql_int)) rfl ?_
  clear h a w; intro a w h
  refine wv h (r_move h rfl) rfl ?_
  clear h a w; intro a w h
  refine wvG h (by first | exact .t rfl | exact .f rfl | exact .gt rfl | exact .gf rfl) (fun hg => by (try simp only [↓gval_on hg, ↓gval_and hg] at h); (have hg2 := hg; (try simp only [Bool.and_eq_true, Bool.or_eq_true, Bool.not_eq_true', decide_eq_true_eq, decide_eq_false_iff_not] at hg2)); first | exact r_fieldAddr h 1 rfl K.u_api_Fault rfl K.sz_int rfl rfl) rfl ?_
  clear h a w; intro a w h
  refine wvG h (by first | exact .t rfl | exact .f rfl | exact .gt rfl | exact .gf rfl) (fun hg => by (try simp only [↓gval_on hg, ↓gval_and hg] at h); (have hg2 := hg; (try simp only [Bool.and_eq_true, Bool.or_eq_true, Bool.not_eq_true', decide_eq_true_eq, decide_eq_false_iff_not] at hg2)); first | exact r_ldN h rfl K.u_int rfl 0 rfl rfl | exact r_ldN h rfl K.u_int rfl 1 rfl rfl | exact r_ldN h rfl K.u_int rfl 2 rfl rfl | exact r_ldN h rfl K.u_int rfl 3 rfl rfl | exact r_ldN h rfl K.u_int rfl 4 rfl rfl | exact r_ldN h rfl K.u_int rfl 5 rfl rfl | exact r_ldN h rfl K.u_int rfl 6 rfl rfl | exact r_ldC (o := 1) h rfl K.u_int rfl 0 rfl | exact r_ldC (o := 1) h rfl K.u_int rfl 1 rfl | exact r_ldC (o := 1) h rfl K.u_int rfl 2 rfl | exact r_ldC (o := 1) h rfl K.u_int rfl 3 rfl | exact r_ldC (o := 1) h rfl K.u_int rfl 4 rfl | exact r_ldC (o := 1) h rfl K.u_int rfl 5 rfl | exact r_ldC (o := 1) h rfl K.u_int rfl 6 rfl | exact r_load h rfl K.u_int rfl 0 rfl rfl | exact r_load h rfl K.u_int rfl 1 rfl rfl | exact r_load h rfl K.u_int rfl 2 rfl rfl | exact r_load h rfl K.u_int rfl 3 rfl rfl | exact r_load h rfl K.u_int rfl 4 rfl rfl | exact r_load h rfl K.u_int rfl 5 rfl rfl | exact r_load1 h rfl K.u_int rfl (by assumption)) rfl ?_
  clear h a w; intro a w h
  refine wvG h (by first | exact .t rfl | exact .f rfl | exact .gt rfl | exact .gf rfl) (fun hg => by (try simp only [↓gval_on hg, ↓gval_and hg] at h); (have hg2 := hg; (try simp only [Bool.and_eq_true, Bool.or_eq_true, Bool.not_eq_true', decide_eq_true_eq, decide_eq_false_iff_not] at hg2)); first | exact r_bin h rfl rfl (B.eql_int)) rfl ?_
  clear h a w; intro a w h
  first
    | (refine wv h (r_pickA h rfl rfl rfl) rfl ?_)
    | (refine wv h (r_pickO h rfl rfl rfl) rfl ?_)
    | (refine wv h (r_pick_true h rfl rfl) rfl ?_)
    | (refine wv h (r_pick_false h rfl rfl) rfl ?_)
    | (refine wv h (r_pick h rfl rfl rfl) rfl ?_)
  clear h a w; intro a w h
  refine wv h (r_move h rfl) rfl ?_
  clear h a w; intro a w h
  refine wvG h (by first | exact .t rfl | exact .f rfl | exact .gt rfl | exact .gf rfl) (fun hg => by (try simp only [↓gval_on hg, ↓gval_and hg] at h); (have hg2 := hg; (try simp only [Bool.and_eq_true, Bool.or_eq_true, Bool.not_eq_true', decide_eq_true_eq, decide_eq_false_iff_not] at hg2)); first | exact r_fieldAddr0 h rfl K.u_api_Fault rfl K.sz_int rfl rfl) rfl ?_
  clear h a w; intro a w h
  refine wvG h (by first | exact .t rfl | exact .f rfl | exact .gt rfl | exact .gf rfl) (fun hg => by (try simp only [↓gval_on hg, ↓gval_and hg] at h); (have hg2 := hg; (try simp only [Bool.and_eq_true, Bool.or_eq_true, Bool.not_eq_true', decide_eq_true_eq, decide_eq_false_iff_not] at hg2)); first | exact r_ldN h rfl K.u_int rfl 0 rfl rfl | exact r_ldN h rfl K.u_int rfl 1 rfl rfl | exact r_ldN h rfl K.u_int rfl 2 rfl rfl | exact r_ldN h rfl K.u_int rfl 3 rfl rfl | exact r_ldN h rfl K.u_int rfl 4 rfl rfl | exact r_ldN h rfl K.u_int rfl 5 rfl rfl | exact r_ldN h rfl K.u_int rfl 6 rfl rfl | exact r_ldC (o := 0) h rfl K.u_int rfl 0 rfl | exact r_ldC (o := 0) h rfl K.u_int rfl 1 rfl | exact r_ldC (o := 0) h rfl K.u_int rfl 2 rfl | exact r_ldC (o := 0) h rfl K.u_int rfl 3 rfl | exact r_ldC (o := 0) h rfl K.u_int rfl 4 rfl | exact r_ldC (o := 0) h rfl K.u_int rfl 5 rfl | exact r_ldC (o := 0) h rfl K.u_int rfl 6 rfl | exact r_load h rfl K.u_int rfl 0 rfl rfl | exact r_load h rfl K.u_int rfl 1 rfl rfl | exact r_load h rfl K.u_int rfl 2 rfl rfl | exact r_load h rfl K.u_int rfl 3 rfl rfl | exact r_load h rfl K.u_int rfl 4 rfl rfl | exact r_load h rfl K.u_int rfl 5 rfl rfl | exact r_load1 h rfl K.u_int rfl (by assumption)) rfl ?_
  clear h a w; intro a w h
  refine wvG h (by first | exact .t rfl | exact .f rfl | exact .gt rfl | exact .gf rfl) (fun hg => by (try simp only [↓gval_on hg, ↓gval_and hg] at h); (have hg2 := hg; (try simp only [Bool.and_eq_true, Bool.or_eq_true, Bool.not_eq_true', decide_eq_true_eq, decide_eq_false_iff_not] at hg2)); first | exact r_bin h rfl rfl (B.eql_int)) rfl ?_
  clear h a w; intro a w h
  first
    | (refine wv h (r_pickA h rfl rfl rfl) rfl ?_)
    | (refine wv h (r_pickO h rfl rfl rfl) rfl ?_)
    | (refine wv h (r_pick_true h rfl rfl) rfl ?_)
    | (refine wv h (r_pick_false h rfl rfl) rfl ?_)
    | (refine wv h (r_pick h rfl rfl rfl) rfl ?_)
  clear h a w; intro a w h
  refine wv h (r_assign h rfl) rfl ?_
  clear h a w; intro a w h
  refine wnil (c_then ?_)
  refine c_ret ?_
  exact ret1 h rfl rfl ⟨(), ret_true (by rfl), (by first | exact h.2 | exact h.2.drop 1 | exact h.2.drop 2 | exact h.2.drop 3 | exact h.2.drop 4 | exact h.2.drop 5 | exact h.2.drop 6 | exact h.2.drop 7 | exact h.2.drop 8 | exact h.2.drop 9 | exact h.2.drop 10 | exact h.2.drop 11 | exact h.2.drop 12 | exact h.2.drop 13 | exact h.2.drop 14 | exact h.2.drop 15 | exact h.2.drop 16), trivial⟩

theorem rulesRaw (s w : World) (v : Value) (l : List El) (F : List HItem) (hv : Views F 10 v l.length (l.flatMap cellsE)) (hs : Sat s w F) :
    Calls P n_law11_RulesRaw #[v] w (Ret s (fun _ : Unit => .bool true) (fun _ => F) (fun _ => True)) := by
  have hlen := Views.len_le hv hs
  refine enter K.fn_law11_RulesRaw rfl K.nt_law11_RulesRaw rfl hs ?_
  clear hs w; intro a w h
  refine c_seq (c_region ?_)
  refine wv h (r_assign h rfl) rfl ?_
  clear h a w; intro a w h
  refine wnil (c_then ?_)
  refine c_seq ?_
  refine c_seq (c_region ?_)
  refine wl rfl (op_call h rfl K.go_law11_awake (law11_awake s _ _ h.2) rfl ?_)
  clear h a w; intro x a w hx h
  (try simp only [List.set_cons_zero, List.set_cons_succ] at h)
  refine wv h (r_not h rfl) rfl ?_
  clear h a w; intro a w h
  refine wv h (r_move h rfl) rfl ?_
  clear h a w; intro a w h
  refine wvG h (by first | exact .t rfl | exact .f rfl | exact .gt rfl | exact .gf rfl) (fun hg => by (try simp only [↓gval_on hg, ↓gval_and hg] at h); (have hg2 := hg; (try simp only [Bool.and_eq_true, Bool.or_eq_true, Bool.not_eq_true', decide_eq_true_eq, decide_eq_false_iff_not] at hg2)); first | exact r_move h rfl) rfl ?_
  clear h a w; intro a w h
  refine wvG h (by first | exact .t rfl | exact .f rfl | exact .gt rfl | exact .gf rfl) (fun hg => by (try simp only [↓gval_on hg, ↓gval_and hg] at h); (have hg2 := hg; (try simp only [Bool.and_eq_true, Bool.or_eq_true, Bool.not_eq_true', decide_eq_true_eq, decide_eq_false_iff_not] at hg2)); first | exact r_lenV h rfl K.u_api_Chart (by first | exact Views.own 0 rfl | exact Views.own 1 rfl | exact Views.own 2 rfl | exact Views.own 3 rfl | exact Views.own 4 rfl | exact Views.own 5 rfl | assumption | exact Views.of_drop 1 (by assumption) | exact Views.of_drop 2 (by assumption) | exact Views.of_drop 3 (by assumption) | exact Views.of_drop 4 (by assumption) | exact Views.of_drop 5 (by assumption) | exact Views.of_drop 6 (by assumption) | exact Views.of_drop 7 (by assumption) | exact Views.of_drop 8 (by assumption) | exact Views.of_drop 9 (by assumption) | exact Views.of_drop 10 (by assumption) | exact Views.of_drop 11 (by assumption) | exact Views.of_drop 12 (by assumption))) rfl ?_
  clear h a w; intro a w h
  refine wvG h (by first | exact .t rfl | exact .f rfl | exact .gt rfl | exact .gf rfl) (fun hg => by (try simp only [↓gval_on hg, ↓gval_and hg] at h); (have hg2 := hg; (try simp only [Bool.and_eq_true, Bool.or_eq_true, Bool.not_eq_true', decide_eq_true_eq, decide_eq_false_iff_not] at hg2)); first | exact r_bin h rfl rfl (B.gtr_int)) rfl ?_
  clear h a w; intro a w h
  first
    | (refine wv h (r_pickA h rfl rfl rfl) rfl ?_)
    | (refine wv h (r_pickO h rfl rfl rfl) rfl ?_)
    | (refine wv h (r_pick_true h rfl rfl) rfl ?_)
    | (refine wv h (r_pick_false h rfl rfl) rfl ?_)
    | (refine wv h (r_pick h rfl rfl rfl) rfl ?_)
  clear h a w; intro a w h
  refine wnil (c_then ?_)
  first
   | refine c_condD h rfl (fun ht1 => ?_) (fun ht1 => ?_)
   | refine c_condP h rfl (by first | (simp only [Bool.and_eq_true, Bool.or_eq_true, Bool.not_eq_true', decide_eq_true_eq, decide_eq_false_iff_not, ne_eq, Bool.not_eq_eq_eq_not, Bool.not_true, beq_iff_eq, bne_iff_ne]; exact Iff.rfl) | exact Iff.rfl) (fun ht1 => ?_) (fun ht1 => ?_)
  ·
   as_aux_lemma =>
    refine c_seq (c_region ?_)
    refine wl rfl (op_call h rfl K.go_law11_awake (law11_awake s _ _ h.2) rfl ?_)
    clear h a w; intro x a w hx h
    (try simp only [List.set_cons_zero, List.set_cons_succ] at h)
    refine wv h (r_assign h rfl) rfl ?_
    clear h a w; intro a w h
    refine wnil (c_then ?_)
    refine c_ret ?_
    exact ret1 h rfl rfl ⟨(), rfl, (by first | exact h.2 | exact h.2.drop 1 | exact h.2.drop 2 | exact h.2.drop 3 | exact h.2.drop 4 | exact h.2.drop 5 | exact h.2.drop 6 | exact h.2.drop 7 | exact h.2.drop 8 | exact h.2.drop 9 | exact h.2.drop 10 | exact h.2.drop 11 | exact h.2.drop 12 | exact h.2.drop 13 | exact h.2.drop 14 | exact h.2.drop 15 | exact h.2.drop 16), trivial⟩
  ·
   refine c_skip ?_
   refine c_then ?_
   refine c_seq (c_region ?_)
   refine wv h (r_move h rfl) rfl ?_
   clear h a w; intro a w h
   refine wl rfl (op_call h rfl K.go_rules_Check (rules_Check s _ _ _ _ (by first | exact Views.own 0 rfl | exact Views.own 1 rfl | exact Views.own 2 rfl | exact Views.own 3 rfl | exact Views.own 4 rfl | exact Views.own 5 rfl | assumption | exact Views.of_drop 1 (by assumption) | exact Views.of_drop 2 (by assumption) | exact Views.of_drop 3 (by assumption) | exact Views.of_drop 4 (by assumption) | exact Views.of_drop 5 (by assumption) | exact Views.of_drop 6 (by assumption) | exact Views.of_drop 7 (by assumption) | exact Views.of_drop 8 (by assumption) | exact Views.of_drop 9 (by assumption) | exact Views.of_drop 10 (by assumption) | exact Views.of_drop 11 (by assumption) | exact Views.of_drop 12 (by assumption)) h.2) rfl ?_)
   clear h a w; intro x a w hx h
   (try simp only [List.set_cons_zero, List.set_cons_succ] at h)
   refine wl rfl (op_alloc h K.z_api_Fault rfl ?_)
   clear h a w; intro b3 a w h
   first
      | (refine wl rfl (op_stA h rfl rfl K.sz_api_Fault (by first | exact Row.len _ | rfl | assumption | (simp; done) | (simp; omega) | omega) (by first | exact Row.one _ | exact bs_one _ | assumption | (simp; done) | (simp; (repeat' apply And.intro) <;> first | rfl | assumption)) 0 rfl (by first | rfl | assumption | (simp; done) | (simp; omega) | omega) ?_))
      | (refine wl rfl (op_stA h rfl rfl K.sz_api_Fault (by first | exact Row.len _ | rfl | assumption | (simp; done) | (simp; omega) | omega) (by first | exact Row.one _ | exact bs_one _ | assumption | (simp; done) | (simp; (repeat' apply And.intro) <;> first | rfl | assumption)) 1 rfl (by first | rfl | assumption | (simp; done) | (simp; omega) | omega) ?_))
      | (refine wl rfl (op_stA h rfl rfl K.sz_api_Fault (by first | exact Row.len _ | rfl | assumption | (simp; done) | (simp; omega) | omega) (by first | exact Row.one _ | exact bs_one _ | assumption | (simp; done) | (simp; (repeat' apply And.intro) <;> first | rfl | assumption)) 2 rfl (by first | rfl | assumption | (simp; done) | (simp; omega) | omega) ?_))
      | (refine wl rfl (op_stA h rfl rfl K.sz_api_Fault (by first | exact Row.len _ | rfl | assumption | (simp; done) | (simp; omega) | omega) (by first | exact Row.one _ | exact bs_one _ | assumption | (simp; done) | (simp; (repeat' apply And.intro) <;> first | rfl | assumption)) 3 rfl (by first | rfl | assumption | (simp; done) | (simp; omega) | omega) ?_))
      | (refine wl rfl (op_stA h rfl rfl K.sz_api_Fault (by first | exact Row.len _ | rfl | assumption | (simp; done) | (simp; omega) | omega) (by first | exact Row.one _ | exact bs_one _ | assumption | (simp; done) | (simp; (repeat' apply And.intro) <;> first | rfl | assumption)) 4 rfl (by first | rfl | assumption | (simp; done) | (simp; omega) | omega) ?_))
      | (refine wl rfl (op_stA h rfl rfl K.sz_api_Fault (by first | exact Row.len _ | rfl | assumption | (simp; done) | (simp; omega) | omega) (by first | exact Row.one _ | exact bs_one _ | assumption | (simp; done) | (simp; (repeat' apply And.intro) <;> first | rfl | assumption)) 5 rfl (by first | rfl | assumption | (simp; done) | (simp; omega) | omega) ?_))
   clear h a w; intro a w h
   (try simp only [List.set_cons_zero, List.set_cons_succ] at h)
   refine wnil (c_then ?_)
   refine c_seq (c_region ?_)
   refine wv h (r_move h rfl) rfl ?_
   clear h a w; intro a w h
   refine wl rfl (op_call h rfl K.go_ref09_Check (ref09_Check s _ _ _ _ (by first | exact Views.own 0 rfl | exact Views.own 1 rfl | exact Views.own 2 rfl | exact Views.own 3 rfl | exact Views.own 4 rfl | exact Views.own 5 rfl | assumption | exact Views.of_drop 1 (by assumption) | exact Views.of_drop 2 (by assumption) | exact Views.of_drop 3 (by assumption) | exact Views.of_drop 4 (by assumption) | exact Views.of_drop 5 (by assumption) | exact Views.of_drop 6 (by assumption) | exact Views.of_drop 7 (by assumption) | exact Views.of_drop 8 (by assumption) | exact Views.of_drop 9 (by assumption) | exact Views.of_drop 10 (by assumption) | exact Views.of_drop 11 (by assumption) | exact Views.of_drop 12 (by assumption)) h.2) rfl ?_)
   clear h a w; intro x a w hx h
   (try simp only [List.set_cons_zero, List.set_cons_succ] at h)
   refine wv h (r_move h rfl) rfl ?_
   clear h a w; intro a w h
   refine wv h (r_extractN h rfl rfl) rfl ?_
   clear h a w; intro a w h
   refine wv h (r_extractN h rfl rfl) rfl ?_
   clear h a w; intro a w h
   refine wv h (r_assign h rfl) rfl ?_
   clear h a w; intro a w h
   refine wv h (r_assign h rfl) rfl ?_
   clear h a w; intro a w h
   refine wnil (c_then ?_)
   refine c_seq (c_region ?_)
   first
      | (refine wv h (r_ldA h rfl K.u_api_Fault rfl K.sz_api_Fault 0 rfl (by first | exact Row.len _ | rfl | assumption | (simp; done) | (simp; omega) | omega)) rfl ?_)
      | (refine wv h (r_ldA h rfl K.u_api_Fault rfl K.sz_api_Fault 1 rfl (by first | exact Row.len _ | rfl | assumption | (simp; done) | (simp; omega) | omega)) rfl ?_)
      | (refine wv h (r_ldA h rfl K.u_api_Fault rfl K.sz_api_Fault 2 rfl (by first | exact Row.len _ | rfl | assumption | (simp; done) | (simp; omega) | omega)) rfl ?_)
      | (refine wv h (r_ldA h rfl K.u_api_Fault rfl K.sz_api_Fault 3 rfl (by first | exact Row.len _ | rfl | assumption | (simp; done) | (simp; omega) | omega)) rfl ?_)
      | (refine wv h (r_ldA h rfl K.u_api_Fault rfl K.sz_api_Fault 4 rfl (by first | exact Row.len _ | rfl | assumption | (simp; done) | (simp; omega) | omega)) rfl ?_)
      | (refine wv h (r_ldA h rfl K.u_api_Fault rfl K.sz_api_Fault 5 rfl (by first | exact Row.len _ | rfl | assumption | (simp; done) | (simp; omega) | omega)) rfl ?_)
      | (refine wv h (r_loadCA h rfl K.u_api_Fault rfl K.sz_api_Fault (by assumption) (by first | rfl | assumption | (simp; done) | (simp; omega) | omega)) rfl ?_)
   clear h a w; intro a w h
   refine wv h (r_move h rfl) rfl ?_
   clear h a w; intro a w h
   refine wv h (r_move h rfl) rfl ?_
   clear h a w; intro a w h
   refine wv h (r_build (cells := ⟨[.int .i64 (checkR l).1, .int .i64 (checkR l).2]⟩) h K.u_api_Fault K.z_api_Fault K.pl_api_Fault rfl (by kernel_rfl)) rfl ?_
   clear h a w; intro a w h
   refine wv h (r_faulteq h rfl rfl) rfl ?_
   clear h a w; intro a w h
   refine wv h (r_assign h rfl) rfl ?_
   clear h a w; intro a w h
   refine wnil (c_then ?_)
   refine c_ret ?_
   exact ret1 h rfl rfl ⟨(), ret_true (by simp), (by first | exact h.2 | exact h.2.drop 1 | exact h.2.drop 2 | exact h.2.drop 3 | exact h.2.drop 4 | exact h.2.drop 5 | exact h.2.drop 6 | exact h.2.drop 7 | exact h.2.drop 8 | exact h.2.drop 9 | exact h.2.drop 10 | exact h.2.drop 11 | exact h.2.drop 12 | exact h.2.drop 13 | exact h.2.drop 14 | exact h.2.drop 15 | exact h.2.drop 16), trivial⟩
end Go.Proofs.K
