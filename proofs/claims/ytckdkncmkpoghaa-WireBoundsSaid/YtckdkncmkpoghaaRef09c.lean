/- The contracts of charts' bytes, and back; of the charts that are made of numbers. -/
import Derived.Test.YtckdkncmkpoghaaRef09b
import Derived.Test.YtckdkncmkpoghaaEncode
import Derived.Test.YtckdkncmkpoghaaPen
set_option linter.unusedVariables false
set_option linter.unusedSimpArgs false
set_option maxRecDepth 10000
set_option maxHeartbeats 4000000
namespace Go.Proofs.K
open Go.Sl
attribute [local irreducible] Go.Sl.Own Go.Sl.Blk Go.Sl.Sep Go.Sl.Ex Go.Sl.Fact

theorem wire_Right (s w : World) (v : Value) (l : List El) (F : List HItem) (hv : Views F 10 v l.length (l.flatMap cellsE)) (hs : Sat s w F) :
    Calls P n_wire_Right #[v] w (Ret s (fun _ : Unit => .bool (rightB l)) (fun _ => F) (fun _ => True)) := by
  refine (wire_right s w v l F hv hs).mono fun e w' ⟨b, he, h', hb⟩ => ⟨(), ?_, h', trivial⟩
  rw [he]
  have hb2 : b = true ↔ RightC l := hb
  have : b = rightB l := by rw [Bool.eq_iff_iff, hb2, rightB_iff]
  rw [this]

theorem dec_zero (last : Int) (st : Int × List UInt8) : (cellsE (rdE last st).1) = [.int .i64 (last + (eyeNum st 1048576).1), bv (UInt8.ofInt (eyeNum (eyeNum st 1048576).2 255).1), .int .i64 (eyeNum (eyeNum (eyeNum st 1048576).2 255).2 1048576).1,
    .int .i64 (rdE last st).1.order, sv (rdE last st).1.name, .int .i64 (rdE last st).1.src, .int .i64 (rdE last st).1.dst, sv (rdE last st).1.event, sv (rdE last st).1.guard, sv (rdE last st).1.action] := rfl

theorem wire_Decode (s w : World) (pv : Value) (p : List UInt8) (F : List HItem) (hl : p.length ≤ 1000000) (hp : ViewsB F pv p) (hs : Sat s w F) :
    Calls P n_wire_Decode #[pv] w (Ret s (fun x : Value × Int × List El => .tuple #[x.1, .int .i64 x.2.1]) (fun x => OwnM 10 cellsE x.1 x.2.2 :: F) (fun x => DecR p x.2.1 x.2.2)) := by
  refine enter K.fn_wire_Decode rfl K.nt_wire_Decode rfl hs ?_
  clear hs w; intro a w h
  refine c_seq (c_region ?_)
  refine wv h (r_assign h rfl) rfl ?_
  clear h a w; intro a w h
  refine wv h (r_assign h rfl) rfl ?_
  clear h a w; intro a w h
  refine wnil (c_then ?_)
  refine c_seq (c_region ?_)
  refine wv h (r_move h rfl) rfl ?_
  clear h a w; intro a w h
  refine wl rfl (op_call h rfl K.go_digit_NewEye (eye_New s _ pv p _ hp (by omega) h.2) rfl ?_)
  clear h a w; intro b a w hx h
  (try simp only [List.set_cons_zero, List.set_cons_succ] at h)
  refine wv h (r_assign h rfl) rfl ?_
  clear h a w; intro a w h
  refine wnil (c_then ?_)
  refine c_seq ?_
  refine c_seq (c_region ?_)
  refine wv h (r_move h rfl) rfl ?_
  clear h a w; intro a w h
  refine wl rfl (op_call h rfl K.go_digit_Eye_Raw (eye_Raw s _ b (0, p) 2 _ 0 rfl (by show p.length ≤ _; omega) h.2) rfl ?_)
  clear h a w; intro v11 a w hx h
  (try simp only [List.set_cons_zero, List.set_cons_succ] at h)
  refine wv h (r_b2sb h rfl K.u_S_uint8 K.u_uint8 K.u_string (by first | exact ViewsB.own 0 rfl | exact ViewsB.own 1 rfl | exact ViewsB.own 2 rfl | exact ViewsB.own 3 rfl | exact ViewsB.own 4 rfl | exact ViewsB.own 5 rfl | assumption | exact ViewsB.nil _ | exact ViewsB.arr 0 rfl (by first | assumption | rfl | (simp; done)) (Nat.le_refl _) (by simp [maxLen]) | exact ViewsB.arr 1 rfl (by first | assumption | rfl | (simp; done)) (Nat.le_refl _) (by simp [maxLen]) | exact ViewsB.arr 2 rfl (by first | assumption | rfl | (simp; done)) (Nat.le_refl _) (by simp [maxLen]) | exact ViewsB.arr 3 rfl (by first | assumption | rfl | (simp; done)) (Nat.le_refl _) (by simp [maxLen]) | exact ViewsB.arr 4 rfl (by first | assumption | rfl | (simp; done)) (Nat.le_refl _) (by simp [maxLen]) | exact ViewsB.of_drop 1 (by assumption) | exact ViewsB.of_drop 2 (by assumption) | exact ViewsB.of_drop 3 (by assumption) | exact ViewsB.of_drop 4 (by assumption) | exact ViewsB.of_drop 5 (by assumption) | exact ViewsB.of_drop 6 (by assumption) | exact ViewsB.of_drop 7 (by assumption) | exact ViewsB.of_drop 8 (by assumption) | exact ViewsB.of_drop 9 (by assumption) | exact ViewsB.of_drop 10 (by assumption) | exact ViewsB.of_drop 11 (by assumption) | exact ViewsB.of_drop 12 (by assumption) | exact ViewsB.sub (by first | exact ViewsB.own 0 rfl | exact ViewsB.own 1 rfl | exact ViewsB.own 2 rfl | exact ViewsB.own 3 rfl | exact ViewsB.own 4 rfl | exact ViewsB.own 5 rfl | assumption | exact ViewsB.nil _ | exact ViewsB.arr 0 rfl (by first | assumption | rfl | (simp; done)) (Nat.le_refl _) (by simp [maxLen]) | exact ViewsB.arr 1 rfl (by first | assumption | rfl | (simp; done)) (Nat.le_refl _) (by simp [maxLen]) | exact ViewsB.arr 2 rfl (by first | assumption | rfl | (simp; done)) (Nat.le_refl _) (by simp [maxLen]) | exact ViewsB.arr 3 rfl (by first | assumption | rfl | (simp; done)) (Nat.le_refl _) (by simp [maxLen]) | exact ViewsB.arr 4 rfl (by first | assumption | rfl | (simp; done)) (Nat.le_refl _) (by simp [maxLen]) | exact ViewsB.of_drop 1 (by assumption) | exact ViewsB.of_drop 2 (by assumption) | exact ViewsB.of_drop 3 (by assumption) | exact ViewsB.of_drop 4 (by assumption) | exact ViewsB.of_drop 5 (by assumption) | exact ViewsB.of_drop 6 (by assumption) | exact ViewsB.of_drop 7 (by assumption) | exact ViewsB.of_drop 8 (by assumption) | exact ViewsB.of_drop 9 (by assumption) | exact ViewsB.of_drop 10 (by assumption) | exact ViewsB.of_drop 11 (by assumption) | exact ViewsB.of_drop 12 (by assumption)) (by omega) (by first | omega | (simp; done) | (simp; omega)))) rfl ?_
  clear h a w; intro a w h
  refine wv h (r_strne h rfl rfl) rfl ?_
  clear h a w; intro a w h
  refine wnil (c_then ?_)
  first
    | refine c_condD h rfl (fun ht1 => ?_) (fun ht1 => ?_)
    | refine c_condP h rfl (by first | (simp only [Bool.and_eq_true, Bool.or_eq_true, Bool.not_eq_true', decide_eq_true_eq, decide_eq_false_iff_not, ne_eq, Bool.not_eq_eq_eq_not, Bool.not_true, beq_iff_eq, bne_iff_ne]; exact Iff.rfl) | exact Iff.rfl) (fun ht1 => ?_) (fun ht1 => ?_)
  ·
    have hmk : (eyeRaw (0, p) 2).1 ≠ [67, 49] := ht1
    as_aux_lemma =>
      refine c_seq (c_region ?_)
      refine wv h (r_assign h rfl) rfl ?_
      clear h a w; intro a w h
      refine wv h (r_assign h rfl) rfl ?_
      clear h a w; intro a w h
      refine wnil (c_then ?_)
      refine c_ret ?_
      exact ret2 h rfl rfl rfl ⟨(.slice none 0 0, 7, []), rfl, (St.addNilM (size := 10) (cells := cellsE) ⟨h.1, h.2.drop 2⟩).2, DecR_mark hmk⟩
  ·
    have hmk : (eyeRaw (0, p) 2).1 = [67, 49] := Decidable.not_not.1 ht1
    have hst := DecI_start hmk
    have hr1 : (eyeRaw (0, p) 2).2.2.length ≤ p.length := eyeRaw_len2 (0, p) 2
    refine c_skip ?_
    refine c_then ?_
    refine c_seq (c_region ?_)
    refine wv h (r_assign h rfl) rfl ?_
    clear h a w; intro a w h
    refine wnil (c_then ?_)
    refine c_seq (c_region ?_)
    refine wv h (r_assign h rfl) rfl ?_
    clear h a w; intro a w h
    refine wnil (c_then ?_)
    refine c_seq ?_
    refine c_seq (c_region ?_)
    refine wv h (r_move h rfl) rfl ?_
    clear h a w; intro a w h
    refine wl rfl (op_call h rfl K.go_digit_Eye_Num (eye_Num s _ b (eyeRaw (0, p) 2).2 40 _ 1 rfl (by decide) (by decide) (by omega) h.2) rfl ?_)
    clear h a w; intro x a w hx h
    (try simp only [List.set_cons_zero, List.set_cons_succ] at h)
    have hr2 := eyeNum_len2 (eyeRaw (0, p) 2).2 40
    have hnm := eyeNum_most2 (eyeRaw (0, p) 2).2 40
    generalize hN : (eyeNum (eyeRaw (0, p) 2).2 40).1 = N at h hst hnm
    generalize hS : (eyeNum (eyeRaw (0, p) 2).2 40).2 = S0 at h hst hr2
    replace h : St 65 s a w _ (EyeI b S0 :: F) := h.mem (fun z => (z.drop 1))
    refine wv h (r_move h rfl) rfl ?_
    clear h a w; intro a w h
    refine wnil (c_then ?_)
    refine c_block ?_
    refine c_loopX ⟨h.1, (h.addNilM (size := 10) (cells := cellsE)).2.perm (.swap _ _ _)⟩ (X := Nat × Value × List El × Int × (Int × List UInt8)) (fun x => [(4, .pointer (some ⟨b, 0, none⟩)), (5, x.2.1), (6, .int .i64 x.2.2.2.1), (15, .int .i64 N), (16, .int .i64 (x.1 : Int))]) (fun x => EyeI b x.2.2.2.2 :: OwnM 10 cellsE x.2.1 x.2.2.1 :: F)
      (fun x => DecI p N x.1 x.2.2.1 x.2.2.2.1 x.2.2.2.2 ∧ (x.1 : Int) ≤ N ∧ x.2.2.2.2.2.length ≤ p.length ∧ 0 ≤ x.2.2.2.1 ∧ x.2.2.2.1 ≤ (x.1 : Int) * 1048576 ∧ x.2.2.1.length = x.1) (fun x => 40 - x.1) (0, .slice none 0 0, [], 0, S0) ⟨(h.keep [4, 5, 6, 15, 16]).1, (h.addNilM (size := 10) (cells := cellsE)).2.perm (.swap _ _ _)⟩ ⟨hst, by show (0 : Int) ≤ N; omega, by show S0.2.length ≤ p.length; omega, Int.le_refl _, by show (0 : Int) ≤ _; omega, rfl⟩ ?_
    clear h a w; intro x a w hx h
    obtain ⟨i, cv, l, last, st⟩ := x
    obtain ⟨hx1, hx2, hx3, hx4, hx5, hx6⟩ := hx
    dsimp only at hx1 hx2 hx3 hx4 hx5 hx6 h
    as_aux_lemma =>
      refine c_seq (c_region ?_)
      refine wv h (r_bin h rfl rfl (B.lss_int)) rfl ?_
      clear h a w; intro a w h
      refine wnil (c_then ?_)
      refine c_seq ?_
      first
        | refine c_condD h rfl (fun ht2 => ?_) (fun ht2 => ?_)
        | refine c_condP h rfl (by first | (simp only [Bool.and_eq_true, Bool.or_eq_true, Bool.not_eq_true', decide_eq_true_eq, decide_eq_false_iff_not, ne_eq, Bool.not_eq_eq_eq_not, Bool.not_true, beq_iff_eq, bne_iff_ne]; exact Iff.rfl) | exact Iff.rfl) (fun ht2 => ?_) (fun ht2 => ?_)
      ·
        obtain ⟨E0, hE0⟩ : ∃ E0, E0 = (rdE last st).1 := ⟨_, rfl⟩
        have hstep := DecI_step hx1 ht2
        have hm1 := eyeNum_most2 st 1048576
        have g1 := eyeNum_len2 st 1048576
        have g2 := eyeNum_len2 (eyeNum st 1048576).2 255
        have g3 := eyeNum_len2 (eyeNum (eyeNum st 1048576).2 255).2 1048576
        have g4 := eyeNum_len2 (eyeNum (eyeNum (eyeNum st 1048576).2 255).2 1048576).2 1048576
        have g5 := eyeNum_len2 (eyeNum (eyeNum (eyeNum (eyeNum st 1048576).2 255).2 1048576).2 1048576).2 1048576
        have g6 := eyeNum_len2 (eyeNum (eyeNum (eyeNum (eyeNum (eyeNum st 1048576).2 255).2 1048576).2 1048576).2 1048576).2 1048576
        have hm2 := eyeNum_most2 (eyeNum st 1048576).2 255
        refine c_skip ?_
        refine c_then ?_
        refine c_seq ?_
        refine c_block ?_
        refine c_seq (c_region ?_)
        refine wv h (r_move h rfl) rfl ?_
        clear h a w; intro a w h
        refine wv h (r_move h rfl) rfl ?_
        clear h a w; intro a w h
        refine wl rfl (op_call h rfl K.go_digit_Eye_Num (eye_Num s _ b _ 1048576 _ 0 rfl (by decide) (by decide) (by omega) h.2) rfl ?_)
        clear h a w; intro x a w hx h
        (try simp only [List.set_cons_zero, List.set_cons_succ] at h)
        refine wv h (r_bin h rfl rfl (B.add_i64 (by omega) (by omega))) rfl ?_
        clear h a w; intro a w h
        refine wv h (r_move h rfl) rfl ?_
        clear h a w; intro a w h
        refine wl rfl (op_call h rfl K.go_digit_Eye_Num (eye_Num s _ b _ 255 _ 0 rfl (by decide) (by decide) (by omega) h.2) rfl ?_)
        clear h a w; intro x a w hx h
        (try simp only [List.set_cons_zero, List.set_cons_succ] at h)
        refine wv h (r_conv h rfl K.u_int K.u_uint8 (C.u8_i64) ) rfl ?_
        clear h a w; intro a w h
        refine wv h (r_move h rfl) rfl ?_
        clear h a w; intro a w h
        refine wl rfl (op_call h rfl K.go_digit_Eye_Num (eye_Num s _ b _ 1048576 _ 0 rfl (by decide) (by decide) (by omega) h.2) rfl ?_)
        clear h a w; intro x a w hx h
        (try simp only [List.set_cons_zero, List.set_cons_succ] at h)
        refine wv h (r_move h rfl) rfl ?_
        clear h a w; intro a w h
        refine wl rfl (op_call h rfl K.go_digit_Eye_Num (eye_Num s _ b _ 1048576 _ 0 rfl (by decide) (by decide) (by omega) h.2) rfl ?_)
        clear h a w; intro x a w hx h
        (try simp only [List.set_cons_zero, List.set_cons_succ] at h)
        refine wv h (r_move h rfl) rfl ?_
        clear h a w; intro a w h
        refine wl rfl (op_call h rfl K.go_digit_Eye_Num (eye_Num s _ b _ 1048576 _ 0 rfl (by decide) (by decide) (by omega) h.2) rfl ?_)
        clear h a w; intro x a w hx h
        (try simp only [List.set_cons_zero, List.set_cons_succ] at h)
        refine wv h (r_move h rfl) rfl ?_
        clear h a w; intro a w h
        refine wl rfl (op_call h rfl K.go_digit_Eye_Num (eye_Num s _ b _ 1048576 _ 0 rfl (by decide) (by decide) (by omega) h.2) rfl ?_)
        clear h a w; intro x a w hx h
        (try simp only [List.set_cons_zero, List.set_cons_succ] at h)
        obtain ⟨A, hA⟩ : ∃ A, A = (eyeNum (eyeNum (eyeNum (eyeNum (eyeNum (eyeNum st 1048576).2 255).2 1048576).2 1048576).2 1048576).2 1048576).2 := ⟨_, rfl⟩
        have hrd : rdE last st = (⟨last + (eyeNum st 1048576).1, UInt8.ofInt (eyeNum (eyeNum st 1048576).2 255).1, (eyeNum (eyeNum (eyeNum st 1048576).2 255).2 1048576).1, (eyeNum (eyeNum (eyeNum (eyeNum st 1048576).2 255).2 1048576).2 1048576).1,
            (eyeText A 12).1, (eyeNum (eyeNum (eyeNum (eyeNum (eyeNum st 1048576).2 255).2 1048576).2 1048576).2 1048576).1, (eyeNum (eyeNum (eyeNum (eyeNum (eyeNum (eyeNum st 1048576).2 255).2 1048576).2 1048576).2 1048576).2 1048576).1,
            (eyeText (eyeText A 12).2 12).1, (eyeText (eyeText (eyeText A 12).2 12).2 12).1, (eyeText (eyeText (eyeText (eyeText A 12).2 12).2 12).2 12).1⟩, (eyeText (eyeText (eyeText (eyeText A 12).2 12).2 12).2 12).2) := by rw [hA]; rfl
        rw [← hA] at h g6
        have hid : (rdE last st).1.id = last + (eyeNum st 1048576).1 := rfl
        generalize (eyeNum (eyeNum (eyeNum (eyeNum (eyeNum (eyeNum st 1048576).2 255).2 1048576).2 1048576).2 1048576).2 1048576).1 = n6 at h hrd
        generalize (eyeNum (eyeNum (eyeNum (eyeNum (eyeNum st 1048576).2 255).2 1048576).2 1048576).2 1048576).1 = n5 at h hrd
        generalize (eyeNum (eyeNum (eyeNum (eyeNum st 1048576).2 255).2 1048576).2 1048576).1 = n4 at h hrd
        generalize (eyeNum (eyeNum (eyeNum st 1048576).2 255).2 1048576).1 = n3 at h hrd
        generalize (eyeNum (eyeNum st 1048576).2 255).1 = n2 at h hrd hm2
        generalize (eyeNum st 1048576).1 = n1 at h hrd hm1 hid
        have k1 := eyeText_len2 A 12
        have k2 := eyeText_len2 (eyeText A 12).2 12
        have k3 := eyeText_len2 (eyeText (eyeText A 12).2 12).2 12
        have k4 := eyeText_len2 (eyeText (eyeText (eyeText A 12).2 12).2 12).2 12
        have hAl : A.2.length ≤ p.length := by omega
        clear g1 g2 g3 g4 g5 g6 hA
        refine wv h (r_build (cells := ⟨cellsE ⟨last + n1, UInt8.ofInt n2, n3, n4, [], n5, n6, [], [], []⟩⟩) h K.u_api_Elem K.z_api_Elem K.pl_api_Elem rfl (by kernel_rfl)) rfl ?_
        clear h a w; intro a w h
        refine wl rfl (op_alloc h K.z_api_Elem rfl ?_)
        clear h a w; intro b7 a w h
        first
          | (refine wl rfl (op_stA h rfl rfl K.sz_api_Elem (by first | exact Row.len _ | rfl | assumption | (simp; done) | (simp; omega) | omega) (by first | exact Row.one _ | exact bs_one _ | assumption | (simp; done) | (simp; (repeat' apply And.intro) <;> first | rfl | assumption)) 0 rfl (by first | rfl | assumption | (simp; done) | (simp; omega) | omega) ?_))
          | (refine wl rfl (op_stA h rfl rfl K.sz_api_Elem (by first | exact Row.len _ | rfl | assumption | (simp; done) | (simp; omega) | omega) (by first | exact Row.one _ | exact bs_one _ | assumption | (simp; done) | (simp; (repeat' apply And.intro) <;> first | rfl | assumption)) 1 rfl (by first | rfl | assumption | (simp; done) | (simp; omega) | omega) ?_))
          | (refine wl rfl (op_stA h rfl rfl K.sz_api_Elem (by first | exact Row.len _ | rfl | assumption | (simp; done) | (simp; omega) | omega) (by first | exact Row.one _ | exact bs_one _ | assumption | (simp; done) | (simp; (repeat' apply And.intro) <;> first | rfl | assumption)) 2 rfl (by first | rfl | assumption | (simp; done) | (simp; omega) | omega) ?_))
          | (refine wl rfl (op_stA h rfl rfl K.sz_api_Elem (by first | exact Row.len _ | rfl | assumption | (simp; done) | (simp; omega) | omega) (by first | exact Row.one _ | exact bs_one _ | assumption | (simp; done) | (simp; (repeat' apply And.intro) <;> first | rfl | assumption)) 3 rfl (by first | rfl | assumption | (simp; done) | (simp; omega) | omega) ?_))
          | (refine wl rfl (op_stA h rfl rfl K.sz_api_Elem (by first | exact Row.len _ | rfl | assumption | (simp; done) | (simp; omega) | omega) (by first | exact Row.one _ | exact bs_one _ | assumption | (simp; done) | (simp; (repeat' apply And.intro) <;> first | rfl | assumption)) 4 rfl (by first | rfl | assumption | (simp; done) | (simp; omega) | omega) ?_))
          | (refine wl rfl (op_stA h rfl rfl K.sz_api_Elem (by first | exact Row.len _ | rfl | assumption | (simp; done) | (simp; omega) | omega) (by first | exact Row.one _ | exact bs_one _ | assumption | (simp; done) | (simp; (repeat' apply And.intro) <;> first | rfl | assumption)) 5 rfl (by first | rfl | assumption | (simp; done) | (simp; omega) | omega) ?_))
        clear h a w; intro a w h
        (try simp only [List.set_cons_zero, List.set_cons_succ] at h)
        refine wnil (c_then ?_)
        refine c_seq (c_region ?_)
        refine wv h (r_move h rfl) rfl ?_
        clear h a w; intro a w h
        refine wl rfl (op_call h rfl K.go_digit_Eye_Text (eye_Text s _ b A 12 _ 1 rfl (by decide) (by decide) (by omega) h.2) rfl ?_)
        clear h a w; intro x a w hx h
        (try simp only [List.set_cons_zero, List.set_cons_succ] at h)
        refine wv h (r_move h rfl) rfl ?_
        clear h a w; intro a w h
        refine wl rfl (op_call h rfl K.go_digit_Eye_Text (eye_Text s _ b (eyeText A 12).2 12 _ 1 rfl (by decide) (by decide) (by omega) h.2) rfl ?_)
        clear h a w; intro x a w hx h
        (try simp only [List.set_cons_zero, List.set_cons_succ] at h)
        refine wv h (r_move h rfl) rfl ?_
        clear h a w; intro a w h
        refine wl rfl (op_call h rfl K.go_digit_Eye_Text (eye_Text s _ b (eyeText (eyeText A 12).2 12).2 12 _ 1 rfl (by decide) (by decide) (by omega) h.2) rfl ?_)
        clear h a w; intro x a w hx h
        (try simp only [List.set_cons_zero, List.set_cons_succ] at h)
        refine wv h (r_move h rfl) rfl ?_
        clear h a w; intro a w h
        refine wl rfl (op_call h rfl K.go_digit_Eye_Text (eye_Text s _ b (eyeText (eyeText (eyeText A 12).2 12).2 12).2 12 _ 1 rfl (by decide) (by decide) (by omega) h.2) rfl ?_)
        clear h a w; intro x a w hx h
        (try simp only [List.set_cons_zero, List.set_cons_succ] at h)
        refine wv h (r_fieldAddr h 4 rfl K.u_api_Elem rfl K.sz_string rfl rfl) rfl ?_
        clear h a w; intro a w h
        first
          | (refine wl rfl (op_storeN h rfl rfl K.sz_string (by first | rfl | assumption | exact Views.oneCell (Views.own 0 rfl) h.2 | exact Views.oneCell (Views.own 1 rfl) h.2 | exact Views.oneCell (Views.own 2 rfl) h.2 | exact Views.oneCell (Views.own 3 rfl) h.2 | exact Views.oneCell (Views.own 4 rfl) h.2 | exact Views.oneCell (Views.own 5 rfl) h.2 | exact Views.oneCell (by assumption) h.2) 0 rfl rfl ?_))
          | (refine wl rfl (op_storeN h rfl rfl K.sz_string (by first | rfl | assumption | exact Views.oneCell (Views.own 0 rfl) h.2 | exact Views.oneCell (Views.own 1 rfl) h.2 | exact Views.oneCell (Views.own 2 rfl) h.2 | exact Views.oneCell (Views.own 3 rfl) h.2 | exact Views.oneCell (Views.own 4 rfl) h.2 | exact Views.oneCell (Views.own 5 rfl) h.2 | exact Views.oneCell (by assumption) h.2) 1 rfl rfl ?_))
          | (refine wl rfl (op_storeN h rfl rfl K.sz_string (by first | rfl | assumption | exact Views.oneCell (Views.own 0 rfl) h.2 | exact Views.oneCell (Views.own 1 rfl) h.2 | exact Views.oneCell (Views.own 2 rfl) h.2 | exact Views.oneCell (Views.own 3 rfl) h.2 | exact Views.oneCell (Views.own 4 rfl) h.2 | exact Views.oneCell (Views.own 5 rfl) h.2 | exact Views.oneCell (by assumption) h.2) 2 rfl rfl ?_))
          | (refine wl rfl (op_storeN h rfl rfl K.sz_string (by first | rfl | assumption | exact Views.oneCell (Views.own 0 rfl) h.2 | exact Views.oneCell (Views.own 1 rfl) h.2 | exact Views.oneCell (Views.own 2 rfl) h.2 | exact Views.oneCell (Views.own 3 rfl) h.2 | exact Views.oneCell (Views.own 4 rfl) h.2 | exact Views.oneCell (Views.own 5 rfl) h.2 | exact Views.oneCell (by assumption) h.2) 3 rfl rfl ?_))
          | (refine wl rfl (op_storeN h rfl rfl K.sz_string (by first | rfl | assumption | exact Views.oneCell (Views.own 0 rfl) h.2 | exact Views.oneCell (Views.own 1 rfl) h.2 | exact Views.oneCell (Views.own 2 rfl) h.2 | exact Views.oneCell (Views.own 3 rfl) h.2 | exact Views.oneCell (Views.own 4 rfl) h.2 | exact Views.oneCell (Views.own 5 rfl) h.2 | exact Views.oneCell (by assumption) h.2) 4 rfl rfl ?_))
          | (refine wl rfl (op_storeN h rfl rfl K.sz_string (by first | rfl | assumption | exact Views.oneCell (Views.own 0 rfl) h.2 | exact Views.oneCell (Views.own 1 rfl) h.2 | exact Views.oneCell (Views.own 2 rfl) h.2 | exact Views.oneCell (Views.own 3 rfl) h.2 | exact Views.oneCell (Views.own 4 rfl) h.2 | exact Views.oneCell (Views.own 5 rfl) h.2 | exact Views.oneCell (by assumption) h.2) 5 rfl rfl ?_))
          | (refine wl rfl (op_storeN h rfl rfl K.sz_string (by first | rfl | assumption | exact Views.oneCell (Views.own 0 rfl) h.2 | exact Views.oneCell (Views.own 1 rfl) h.2 | exact Views.oneCell (Views.own 2 rfl) h.2 | exact Views.oneCell (Views.own 3 rfl) h.2 | exact Views.oneCell (Views.own 4 rfl) h.2 | exact Views.oneCell (Views.own 5 rfl) h.2 | exact Views.oneCell (by assumption) h.2) 6 rfl rfl ?_))
          | (refine wl rfl (op_storeC (o := 4) h rfl rfl K.sz_string (by first | rfl | assumption | exact Views.oneCell (Views.own 0 rfl) h.2 | exact Views.oneCell (Views.own 1 rfl) h.2 | exact Views.oneCell (Views.own 2 rfl) h.2 | exact Views.oneCell (Views.own 3 rfl) h.2 | exact Views.oneCell (Views.own 4 rfl) h.2 | exact Views.oneCell (Views.own 5 rfl) h.2 | exact Views.oneCell (by assumption) h.2) 0 rfl ?_))
          | (refine wl rfl (op_storeC (o := 4) h rfl rfl K.sz_string (by first | rfl | assumption | exact Views.oneCell (Views.own 0 rfl) h.2 | exact Views.oneCell (Views.own 1 rfl) h.2 | exact Views.oneCell (Views.own 2 rfl) h.2 | exact Views.oneCell (Views.own 3 rfl) h.2 | exact Views.oneCell (Views.own 4 rfl) h.2 | exact Views.oneCell (Views.own 5 rfl) h.2 | exact Views.oneCell (by assumption) h.2) 1 rfl ?_))
          | (refine wl rfl (op_storeC (o := 4) h rfl rfl K.sz_string (by first | rfl | assumption | exact Views.oneCell (Views.own 0 rfl) h.2 | exact Views.oneCell (Views.own 1 rfl) h.2 | exact Views.oneCell (Views.own 2 rfl) h.2 | exact Views.oneCell (Views.own 3 rfl) h.2 | exact Views.oneCell (Views.own 4 rfl) h.2 | exact Views.oneCell (Views.own 5 rfl) h.2 | exact Views.oneCell (by assumption) h.2) 2 rfl ?_))
          | (refine wl rfl (op_storeC (o := 4) h rfl rfl K.sz_string (by first | rfl | assumption | exact Views.oneCell (Views.own 0 rfl) h.2 | exact Views.oneCell (Views.own 1 rfl) h.2 | exact Views.oneCell (Views.own 2 rfl) h.2 | exact Views.oneCell (Views.own 3 rfl) h.2 | exact Views.oneCell (Views.own 4 rfl) h.2 | exact Views.oneCell (Views.own 5 rfl) h.2 | exact Views.oneCell (by assumption) h.2) 3 rfl ?_))
          | (refine wl rfl (op_storeC (o := 4) h rfl rfl K.sz_string (by first | rfl | assumption | exact Views.oneCell (Views.own 0 rfl) h.2 | exact Views.oneCell (Views.own 1 rfl) h.2 | exact Views.oneCell (Views.own 2 rfl) h.2 | exact Views.oneCell (Views.own 3 rfl) h.2 | exact Views.oneCell (Views.own 4 rfl) h.2 | exact Views.oneCell (Views.own 5 rfl) h.2 | exact Views.oneCell (by assumption) h.2) 4 rfl ?_))
          | (refine wl rfl (op_storeC (o := 4) h rfl rfl K.sz_string (by first | rfl | assumption | exact Views.oneCell (Views.own 0 rfl) h.2 | exact Views.oneCell (Views.own 1 rfl) h.2 | exact Views.oneCell (Views.own 2 rfl) h.2 | exact Views.oneCell (Views.own 3 rfl) h.2 | exact Views.oneCell (Views.own 4 rfl) h.2 | exact Views.oneCell (Views.own 5 rfl) h.2 | exact Views.oneCell (by assumption) h.2) 5 rfl ?_))
          | (refine wl rfl (op_storeC (o := 4) h rfl rfl K.sz_string (by first | rfl | assumption | exact Views.oneCell (Views.own 0 rfl) h.2 | exact Views.oneCell (Views.own 1 rfl) h.2 | exact Views.oneCell (Views.own 2 rfl) h.2 | exact Views.oneCell (Views.own 3 rfl) h.2 | exact Views.oneCell (Views.own 4 rfl) h.2 | exact Views.oneCell (Views.own 5 rfl) h.2 | exact Views.oneCell (by assumption) h.2) 6 rfl ?_))
        clear h a w; intro a w h
        (try simp only [List.set_cons_zero, List.set_cons_succ] at h)
        refine wv h (r_fieldAddr h 7 rfl K.u_api_Elem rfl K.sz_string rfl rfl) rfl ?_
        clear h a w; intro a w h
        first
          | (refine wl rfl (op_storeN h rfl rfl K.sz_string (by first | rfl | assumption | exact Views.oneCell (Views.own 0 rfl) h.2 | exact Views.oneCell (Views.own 1 rfl) h.2 | exact Views.oneCell (Views.own 2 rfl) h.2 | exact Views.oneCell (Views.own 3 rfl) h.2 | exact Views.oneCell (Views.own 4 rfl) h.2 | exact Views.oneCell (Views.own 5 rfl) h.2 | exact Views.oneCell (by assumption) h.2) 0 rfl rfl ?_))
          | (refine wl rfl (op_storeN h rfl rfl K.sz_string (by first | rfl | assumption | exact Views.oneCell (Views.own 0 rfl) h.2 | exact Views.oneCell (Views.own 1 rfl) h.2 | exact Views.oneCell (Views.own 2 rfl) h.2 | exact Views.oneCell (Views.own 3 rfl) h.2 | exact Views.oneCell (Views.own 4 rfl) h.2 | exact Views.oneCell (Views.own 5 rfl) h.2 | exact Views.oneCell (by assumption) h.2) 1 rfl rfl ?_))
          | (refine wl rfl (op_storeN h rfl rfl K.sz_string (by first | rfl | assumption | exact Views.oneCell (Views.own 0 rfl) h.2 | exact Views.oneCell (Views.own 1 rfl) h.2 | exact Views.oneCell (Views.own 2 rfl) h.2 | exact Views.oneCell (Views.own 3 rfl) h.2 | exact Views.oneCell (Views.own 4 rfl) h.2 | exact Views.oneCell (Views.own 5 rfl) h.2 | exact Views.oneCell (by assumption) h.2) 2 rfl rfl ?_))
          | (refine wl rfl (op_storeN h rfl rfl K.sz_string (by first | rfl | assumption | exact Views.oneCell (Views.own 0 rfl) h.2 | exact Views.oneCell (Views.own 1 rfl) h.2 | exact Views.oneCell (Views.own 2 rfl) h.2 | exact Views.oneCell (Views.own 3 rfl) h.2 | exact Views.oneCell (Views.own 4 rfl) h.2 | exact Views.oneCell (Views.own 5 rfl) h.2 | exact Views.oneCell (by assumption) h.2) 3 rfl rfl ?_))
          | (refine wl rfl (op_storeN h rfl rfl K.sz_string (by first | rfl | assumption | exact Views.oneCell (Views.own 0 rfl) h.2 | exact Views.oneCell (Views.own 1 rfl) h.2 | exact Views.oneCell (Views.own 2 rfl) h.2 | exact Views.oneCell (Views.own 3 rfl) h.2 | exact Views.oneCell (Views.own 4 rfl) h.2 | exact Views.oneCell (Views.own 5 rfl) h.2 | exact Views.oneCell (by assumption) h.2) 4 rfl rfl ?_))
          | (refine wl rfl (op_storeN h rfl rfl K.sz_string (by first | rfl | assumption | exact Views.oneCell (Views.own 0 rfl) h.2 | exact Views.oneCell (Views.own 1 rfl) h.2 | exact Views.oneCell (Views.own 2 rfl) h.2 | exact Views.oneCell (Views.own 3 rfl) h.2 | exact Views.oneCell (Views.own 4 rfl) h.2 | exact Views.oneCell (Views.own 5 rfl) h.2 | exact Views.oneCell (by assumption) h.2) 5 rfl rfl ?_))
          | (refine wl rfl (op_storeN h rfl rfl K.sz_string (by first | rfl | assumption | exact Views.oneCell (Views.own 0 rfl) h.2 | exact Views.oneCell (Views.own 1 rfl) h.2 | exact Views.oneCell (Views.own 2 rfl) h.2 | exact Views.oneCell (Views.own 3 rfl) h.2 | exact Views.oneCell (Views.own 4 rfl) h.2 | exact Views.oneCell (Views.own 5 rfl) h.2 | exact Views.oneCell (by assumption) h.2) 6 rfl rfl ?_))
          | (refine wl rfl (op_storeC (o := 7) h rfl rfl K.sz_string (by first | rfl | assumption | exact Views.oneCell (Views.own 0 rfl) h.2 | exact Views.oneCell (Views.own 1 rfl) h.2 | exact Views.oneCell (Views.own 2 rfl) h.2 | exact Views.oneCell (Views.own 3 rfl) h.2 | exact Views.oneCell (Views.own 4 rfl) h.2 | exact Views.oneCell (Views.own 5 rfl) h.2 | exact Views.oneCell (by assumption) h.2) 0 rfl ?_))
          | (refine wl rfl (op_storeC (o := 7) h rfl rfl K.sz_string (by first | rfl | assumption | exact Views.oneCell (Views.own 0 rfl) h.2 | exact Views.oneCell (Views.own 1 rfl) h.2 | exact Views.oneCell (Views.own 2 rfl) h.2 | exact Views.oneCell (Views.own 3 rfl) h.2 | exact Views.oneCell (Views.own 4 rfl) h.2 | exact Views.oneCell (Views.own 5 rfl) h.2 | exact Views.oneCell (by assumption) h.2) 1 rfl ?_))
          | (refine wl rfl (op_storeC (o := 7) h rfl rfl K.sz_string (by first | rfl | assumption | exact Views.oneCell (Views.own 0 rfl) h.2 | exact Views.oneCell (Views.own 1 rfl) h.2 | exact Views.oneCell (Views.own 2 rfl) h.2 | exact Views.oneCell (Views.own 3 rfl) h.2 | exact Views.oneCell (Views.own 4 rfl) h.2 | exact Views.oneCell (Views.own 5 rfl) h.2 | exact Views.oneCell (by assumption) h.2) 2 rfl ?_))
          | (refine wl rfl (op_storeC (o := 7) h rfl rfl K.sz_string (by first | rfl | assumption | exact Views.oneCell (Views.own 0 rfl) h.2 | exact Views.oneCell (Views.own 1 rfl) h.2 | exact Views.oneCell (Views.own 2 rfl) h.2 | exact Views.oneCell (Views.own 3 rfl) h.2 | exact Views.oneCell (Views.own 4 rfl) h.2 | exact Views.oneCell (Views.own 5 rfl) h.2 | exact Views.oneCell (by assumption) h.2) 3 rfl ?_))
          | (refine wl rfl (op_storeC (o := 7) h rfl rfl K.sz_string (by first | rfl | assumption | exact Views.oneCell (Views.own 0 rfl) h.2 | exact Views.oneCell (Views.own 1 rfl) h.2 | exact Views.oneCell (Views.own 2 rfl) h.2 | exact Views.oneCell (Views.own 3 rfl) h.2 | exact Views.oneCell (Views.own 4 rfl) h.2 | exact Views.oneCell (Views.own 5 rfl) h.2 | exact Views.oneCell (by assumption) h.2) 4 rfl ?_))
          | (refine wl rfl (op_storeC (o := 7) h rfl rfl K.sz_string (by first | rfl | assumption | exact Views.oneCell (Views.own 0 rfl) h.2 | exact Views.oneCell (Views.own 1 rfl) h.2 | exact Views.oneCell (Views.own 2 rfl) h.2 | exact Views.oneCell (Views.own 3 rfl) h.2 | exact Views.oneCell (Views.own 4 rfl) h.2 | exact Views.oneCell (Views.own 5 rfl) h.2 | exact Views.oneCell (by assumption) h.2) 5 rfl ?_))
          | (refine wl rfl (op_storeC (o := 7) h rfl rfl K.sz_string (by first | rfl | assumption | exact Views.oneCell (Views.own 0 rfl) h.2 | exact Views.oneCell (Views.own 1 rfl) h.2 | exact Views.oneCell (Views.own 2 rfl) h.2 | exact Views.oneCell (Views.own 3 rfl) h.2 | exact Views.oneCell (Views.own 4 rfl) h.2 | exact Views.oneCell (Views.own 5 rfl) h.2 | exact Views.oneCell (by assumption) h.2) 6 rfl ?_))
        clear h a w; intro a w h
        (try simp only [List.set_cons_zero, List.set_cons_succ] at h)
        refine wv h (r_fieldAddr h 8 rfl K.u_api_Elem rfl K.sz_string rfl rfl) rfl ?_
        clear h a w; intro a w h
        first
          | (refine wl rfl (op_storeN h rfl rfl K.sz_string (by first | rfl | assumption | exact Views.oneCell (Views.own 0 rfl) h.2 | exact Views.oneCell (Views.own 1 rfl) h.2 | exact Views.oneCell (Views.own 2 rfl) h.2 | exact Views.oneCell (Views.own 3 rfl) h.2 | exact Views.oneCell (Views.own 4 rfl) h.2 | exact Views.oneCell (Views.own 5 rfl) h.2 | exact Views.oneCell (by assumption) h.2) 0 rfl rfl ?_))
          | (refine wl rfl (op_storeN h rfl rfl K.sz_string (by first | rfl | assumption | exact Views.oneCell (Views.own 0 rfl) h.2 | exact Views.oneCell (Views.own 1 rfl) h.2 | exact Views.oneCell (Views.own 2 rfl) h.2 | exact Views.oneCell (Views.own 3 rfl) h.2 | exact Views.oneCell (Views.own 4 rfl) h.2 | exact Views.oneCell (Views.own 5 rfl) h.2 | exact Views.oneCell (by assumption) h.2) 1 rfl rfl ?_))
          | (refine wl rfl (op_storeN h rfl rfl K.sz_string (by first | rfl | assumption | exact Views.oneCell (Views.own 0 rfl) h.2 | exact Views.oneCell (Views.own 1 rfl) h.2 | exact Views.oneCell (Views.own 2 rfl) h.2 | exact Views.oneCell (Views.own 3 rfl) h.2 | exact Views.oneCell (Views.own 4 rfl) h.2 | exact Views.oneCell (Views.own 5 rfl) h.2 | exact Views.oneCell (by assumption) h.2) 2 rfl rfl ?_))
          | (refine wl rfl (op_storeN h rfl rfl K.sz_string (by first | rfl | assumption | exact Views.oneCell (Views.own 0 rfl) h.2 | exact Views.oneCell (Views.own 1 rfl) h.2 | exact Views.oneCell (Views.own 2 rfl) h.2 | exact Views.oneCell (Views.own 3 rfl) h.2 | exact Views.oneCell (Views.own 4 rfl) h.2 | exact Views.oneCell (Views.own 5 rfl) h.2 | exact Views.oneCell (by assumption) h.2) 3 rfl rfl ?_))
          | (refine wl rfl (op_storeN h rfl rfl K.sz_string (by first | rfl | assumption | exact Views.oneCell (Views.own 0 rfl) h.2 | exact Views.oneCell (Views.own 1 rfl) h.2 | exact Views.oneCell (Views.own 2 rfl) h.2 | exact Views.oneCell (Views.own 3 rfl) h.2 | exact Views.oneCell (Views.own 4 rfl) h.2 | exact Views.oneCell (Views.own 5 rfl) h.2 | exact Views.oneCell (by assumption) h.2) 4 rfl rfl ?_))
          | (refine wl rfl (op_storeN h rfl rfl K.sz_string (by first | rfl | assumption | exact Views.oneCell (Views.own 0 rfl) h.2 | exact Views.oneCell (Views.own 1 rfl) h.2 | exact Views.oneCell (Views.own 2 rfl) h.2 | exact Views.oneCell (Views.own 3 rfl) h.2 | exact Views.oneCell (Views.own 4 rfl) h.2 | exact Views.oneCell (Views.own 5 rfl) h.2 | exact Views.oneCell (by assumption) h.2) 5 rfl rfl ?_))
          | (refine wl rfl (op_storeN h rfl rfl K.sz_string (by first | rfl | assumption | exact Views.oneCell (Views.own 0 rfl) h.2 | exact Views.oneCell (Views.own 1 rfl) h.2 | exact Views.oneCell (Views.own 2 rfl) h.2 | exact Views.oneCell (Views.own 3 rfl) h.2 | exact Views.oneCell (Views.own 4 rfl) h.2 | exact Views.oneCell (Views.own 5 rfl) h.2 | exact Views.oneCell (by assumption) h.2) 6 rfl rfl ?_))
          | (refine wl rfl (op_storeC (o := 8) h rfl rfl K.sz_string (by first | rfl | assumption | exact Views.oneCell (Views.own 0 rfl) h.2 | exact Views.oneCell (Views.own 1 rfl) h.2 | exact Views.oneCell (Views.own 2 rfl) h.2 | exact Views.oneCell (Views.own 3 rfl) h.2 | exact Views.oneCell (Views.own 4 rfl) h.2 | exact Views.oneCell (Views.own 5 rfl) h.2 | exact Views.oneCell (by assumption) h.2) 0 rfl ?_))
          | (refine wl rfl (op_storeC (o := 8) h rfl rfl K.sz_string (by first | rfl | assumption | exact Views.oneCell (Views.own 0 rfl) h.2 | exact Views.oneCell (Views.own 1 rfl) h.2 | exact Views.oneCell (Views.own 2 rfl) h.2 | exact Views.oneCell (Views.own 3 rfl) h.2 | exact Views.oneCell (Views.own 4 rfl) h.2 | exact Views.oneCell (Views.own 5 rfl) h.2 | exact Views.oneCell (by assumption) h.2) 1 rfl ?_))
          | (refine wl rfl (op_storeC (o := 8) h rfl rfl K.sz_string (by first | rfl | assumption | exact Views.oneCell (Views.own 0 rfl) h.2 | exact Views.oneCell (Views.own 1 rfl) h.2 | exact Views.oneCell (Views.own 2 rfl) h.2 | exact Views.oneCell (Views.own 3 rfl) h.2 | exact Views.oneCell (Views.own 4 rfl) h.2 | exact Views.oneCell (Views.own 5 rfl) h.2 | exact Views.oneCell (by assumption) h.2) 2 rfl ?_))
          | (refine wl rfl (op_storeC (o := 8) h rfl rfl K.sz_string (by first | rfl | assumption | exact Views.oneCell (Views.own 0 rfl) h.2 | exact Views.oneCell (Views.own 1 rfl) h.2 | exact Views.oneCell (Views.own 2 rfl) h.2 | exact Views.oneCell (Views.own 3 rfl) h.2 | exact Views.oneCell (Views.own 4 rfl) h.2 | exact Views.oneCell (Views.own 5 rfl) h.2 | exact Views.oneCell (by assumption) h.2) 3 rfl ?_))
          | (refine wl rfl (op_storeC (o := 8) h rfl rfl K.sz_string (by first | rfl | assumption | exact Views.oneCell (Views.own 0 rfl) h.2 | exact Views.oneCell (Views.own 1 rfl) h.2 | exact Views.oneCell (Views.own 2 rfl) h.2 | exact Views.oneCell (Views.own 3 rfl) h.2 | exact Views.oneCell (Views.own 4 rfl) h.2 | exact Views.oneCell (Views.own 5 rfl) h.2 | exact Views.oneCell (by assumption) h.2) 4 rfl ?_))
          | (refine wl rfl (op_storeC (o := 8) h rfl rfl K.sz_string (by first | rfl | assumption | exact Views.oneCell (Views.own 0 rfl) h.2 | exact Views.oneCell (Views.own 1 rfl) h.2 | exact Views.oneCell (Views.own 2 rfl) h.2 | exact Views.oneCell (Views.own 3 rfl) h.2 | exact Views.oneCell (Views.own 4 rfl) h.2 | exact Views.oneCell (Views.own 5 rfl) h.2 | exact Views.oneCell (by assumption) h.2) 5 rfl ?_))
          | (refine wl rfl (op_storeC (o := 8) h rfl rfl K.sz_string (by first | rfl | assumption | exact Views.oneCell (Views.own 0 rfl) h.2 | exact Views.oneCell (Views.own 1 rfl) h.2 | exact Views.oneCell (Views.own 2 rfl) h.2 | exact Views.oneCell (Views.own 3 rfl) h.2 | exact Views.oneCell (Views.own 4 rfl) h.2 | exact Views.oneCell (Views.own 5 rfl) h.2 | exact Views.oneCell (by assumption) h.2) 6 rfl ?_))
        clear h a w; intro a w h
        (try simp only [List.set_cons_zero, List.set_cons_succ] at h)
        refine wv h (r_fieldAddr h 9 rfl K.u_api_Elem rfl K.sz_string rfl rfl) rfl ?_
        clear h a w; intro a w h
        first
          | (refine wl rfl (op_storeN h rfl rfl K.sz_string (by first | rfl | assumption | exact Views.oneCell (Views.own 0 rfl) h.2 | exact Views.oneCell (Views.own 1 rfl) h.2 | exact Views.oneCell (Views.own 2 rfl) h.2 | exact Views.oneCell (Views.own 3 rfl) h.2 | exact Views.oneCell (Views.own 4 rfl) h.2 | exact Views.oneCell (Views.own 5 rfl) h.2 | exact Views.oneCell (by assumption) h.2) 0 rfl rfl ?_))
          | (refine wl rfl (op_storeN h rfl rfl K.sz_string (by first | rfl | assumption | exact Views.oneCell (Views.own 0 rfl) h.2 | exact Views.oneCell (Views.own 1 rfl) h.2 | exact Views.oneCell (Views.own 2 rfl) h.2 | exact Views.oneCell (Views.own 3 rfl) h.2 | exact Views.oneCell (Views.own 4 rfl) h.2 | exact Views.oneCell (Views.own 5 rfl) h.2 | exact Views.oneCell (by assumption) h.2) 1 rfl rfl ?_))
          | (refine wl rfl (op_storeN h rfl rfl K.sz_string (by first | rfl | assumption | exact Views.oneCell (Views.own 0 rfl) h.2 | exact Views.oneCell (Views.own 1 rfl) h.2 | exact Views.oneCell (Views.own 2 rfl) h.2 | exact Views.oneCell (Views.own 3 rfl) h.2 | exact Views.oneCell (Views.own 4 rfl) h.2 | exact Views.oneCell (Views.own 5 rfl) h.2 | exact Views.oneCell (by assumption) h.2) 2 rfl rfl ?_))
          | (refine wl rfl (op_storeN h rfl rfl K.sz_string (by first | rfl | assumption | exact Views.oneCell (Views.own 0 rfl) h.2 | exact Views.oneCell (Views.own 1 rfl) h.2 | exact Views.oneCell (Views.own 2 rfl) h.2 | exact Views.oneCell (Views.own 3 rfl) h.2 | exact Views.oneCell (Views.own 4 rfl) h.2 | exact Views.oneCell (Views.own 5 rfl) h.2 | exact Views.oneCell (by assumption) h.2) 3 rfl rfl ?_))
          | (refine wl rfl (op_storeN h rfl rfl K.sz_string (by first | rfl | assumption | exact Views.oneCell (Views.own 0 rfl) h.2 | exact Views.oneCell (Views.own 1 rfl) h.2 | exact Views.oneCell (Views.own 2 rfl) h.2 | exact Views.oneCell (Views.own 3 rfl) h.2 | exact Views.oneCell (Views.own 4 rfl) h.2 | exact Views.oneCell (Views.own 5 rfl) h.2 | exact Views.oneCell (by assumption) h.2) 4 rfl rfl ?_))
          | (refine wl rfl (op_storeN h rfl rfl K.sz_string (by first | rfl | assumption | exact Views.oneCell (Views.own 0 rfl) h.2 | exact Views.oneCell (Views.own 1 rfl) h.2 | exact Views.oneCell (Views.own 2 rfl) h.2 | exact Views.oneCell (Views.own 3 rfl) h.2 | exact Views.oneCell (Views.own 4 rfl) h.2 | exact Views.oneCell (Views.own 5 rfl) h.2 | exact Views.oneCell (by assumption) h.2) 5 rfl rfl ?_))
          | (refine wl rfl (op_storeN h rfl rfl K.sz_string (by first | rfl | assumption | exact Views.oneCell (Views.own 0 rfl) h.2 | exact Views.oneCell (Views.own 1 rfl) h.2 | exact Views.oneCell (Views.own 2 rfl) h.2 | exact Views.oneCell (Views.own 3 rfl) h.2 | exact Views.oneCell (Views.own 4 rfl) h.2 | exact Views.oneCell (Views.own 5 rfl) h.2 | exact Views.oneCell (by assumption) h.2) 6 rfl rfl ?_))
          | (refine wl rfl (op_storeC (o := 9) h rfl rfl K.sz_string (by first | rfl | assumption | exact Views.oneCell (Views.own 0 rfl) h.2 | exact Views.oneCell (Views.own 1 rfl) h.2 | exact Views.oneCell (Views.own 2 rfl) h.2 | exact Views.oneCell (Views.own 3 rfl) h.2 | exact Views.oneCell (Views.own 4 rfl) h.2 | exact Views.oneCell (Views.own 5 rfl) h.2 | exact Views.oneCell (by assumption) h.2) 0 rfl ?_))
          | (refine wl rfl (op_storeC (o := 9) h rfl rfl K.sz_string (by first | rfl | assumption | exact Views.oneCell (Views.own 0 rfl) h.2 | exact Views.oneCell (Views.own 1 rfl) h.2 | exact Views.oneCell (Views.own 2 rfl) h.2 | exact Views.oneCell (Views.own 3 rfl) h.2 | exact Views.oneCell (Views.own 4 rfl) h.2 | exact Views.oneCell (Views.own 5 rfl) h.2 | exact Views.oneCell (by assumption) h.2) 1 rfl ?_))
          | (refine wl rfl (op_storeC (o := 9) h rfl rfl K.sz_string (by first | rfl | assumption | exact Views.oneCell (Views.own 0 rfl) h.2 | exact Views.oneCell (Views.own 1 rfl) h.2 | exact Views.oneCell (Views.own 2 rfl) h.2 | exact Views.oneCell (Views.own 3 rfl) h.2 | exact Views.oneCell (Views.own 4 rfl) h.2 | exact Views.oneCell (Views.own 5 rfl) h.2 | exact Views.oneCell (by assumption) h.2) 2 rfl ?_))
          | (refine wl rfl (op_storeC (o := 9) h rfl rfl K.sz_string (by first | rfl | assumption | exact Views.oneCell (Views.own 0 rfl) h.2 | exact Views.oneCell (Views.own 1 rfl) h.2 | exact Views.oneCell (Views.own 2 rfl) h.2 | exact Views.oneCell (Views.own 3 rfl) h.2 | exact Views.oneCell (Views.own 4 rfl) h.2 | exact Views.oneCell (Views.own 5 rfl) h.2 | exact Views.oneCell (by assumption) h.2) 3 rfl ?_))
          | (refine wl rfl (op_storeC (o := 9) h rfl rfl K.sz_string (by first | rfl | assumption | exact Views.oneCell (Views.own 0 rfl) h.2 | exact Views.oneCell (Views.own 1 rfl) h.2 | exact Views.oneCell (Views.own 2 rfl) h.2 | exact Views.oneCell (Views.own 3 rfl) h.2 | exact Views.oneCell (Views.own 4 rfl) h.2 | exact Views.oneCell (Views.own 5 rfl) h.2 | exact Views.oneCell (by assumption) h.2) 4 rfl ?_))
          | (refine wl rfl (op_storeC (o := 9) h rfl rfl K.sz_string (by first | rfl | assumption | exact Views.oneCell (Views.own 0 rfl) h.2 | exact Views.oneCell (Views.own 1 rfl) h.2 | exact Views.oneCell (Views.own 2 rfl) h.2 | exact Views.oneCell (Views.own 3 rfl) h.2 | exact Views.oneCell (Views.own 4 rfl) h.2 | exact Views.oneCell (Views.own 5 rfl) h.2 | exact Views.oneCell (by assumption) h.2) 5 rfl ?_))
          | (refine wl rfl (op_storeC (o := 9) h rfl rfl K.sz_string (by first | rfl | assumption | exact Views.oneCell (Views.own 0 rfl) h.2 | exact Views.oneCell (Views.own 1 rfl) h.2 | exact Views.oneCell (Views.own 2 rfl) h.2 | exact Views.oneCell (Views.own 3 rfl) h.2 | exact Views.oneCell (Views.own 4 rfl) h.2 | exact Views.oneCell (Views.own 5 rfl) h.2 | exact Views.oneCell (by assumption) h.2) 6 rfl ?_))
        clear h a w; intro a w h
        (try simp only [List.set_cons_zero, List.set_cons_succ] at h)
        refine wnil (c_then ?_)
        refine c_seq ?_
        have hcl : ((((cellsE ⟨last + n1, UInt8.ofInt n2, n3, n4, [], n5, n6, [], [], []⟩).set (0 + 4) (sv (eyeText A 12).1)).set (0 + 7) (sv (eyeText (eyeText A 12).2 12).1)).set (0 + 8) (sv (eyeText (eyeText (eyeText A 12).2 12).2 12).1)).set (0 + 9) (sv (eyeText (eyeText (eyeText (eyeText A 12).2 12).2 12).2 12).1) = cellsE (rdE last st).1 := by rw [hrd]; rfl
        have hst2 : (eyeText (eyeText (eyeText (eyeText A 12).2 12).2 12).2 12).2 = (rdE last st).2 := by rw [hrd]
        have hlen2 : (rdE last st).2.2.length ≤ p.length := by rw [← hst2]; omega
        rw [hcl, hst2] at h
        replace h := h.keep [4, 5, 6, 7, 15, 16]
        clear hcl hst2 k1 k2 k3 k4 hrd hAl
        have hid1 : 0 ≤ (rdE last st).1.id ∧ (rdE last st).1.id ≤ ((i + 1 : Nat) : Int) * 1048576 := by rw [hid]; omega
        have hNi : i < 40 := by omega
        generalize hre : rdE last st = re at *
        obtain ⟨e, st2⟩ := re
        dsimp only at *
        refine c_seq (c_region ?_)
        refine wv h (r_move h rfl) rfl ?_
        clear h a w; intro a w h
        refine wl rfl (op_call h rfl K.go_digit_Eye_Fault (eye_FaultI s _ b _ _ 1 rfl h.2) rfl ?_)
        clear h a w; intro x a w hx h
        (try simp only [List.set_cons_zero, List.set_cons_succ] at h)
        refine wv h (r_bin h rfl rfl (B.neq_int)) rfl ?_
        clear h a w; intro a w h
        refine wnil (c_then ?_)
        first
          | refine c_condD h rfl (fun ht3 => ?_) (fun ht3 => ?_)
          | refine c_condP h rfl (by first | (simp only [Bool.and_eq_true, Bool.or_eq_true, Bool.not_eq_true', decide_eq_true_eq, decide_eq_false_iff_not, ne_eq, Bool.not_eq_eq_eq_not, Bool.not_true, beq_iff_eq, bne_iff_ne]; exact Iff.rfl) | exact Iff.rfl) (fun ht3 => ?_) (fun ht3 => ?_)
        ·
          have hnone := fun c hc => DecI_fail hx1 ht2 (by rw [hre]; exact ht3) c hc
          have hend : eyeEnd st2 ≠ 0 := fun q => ht3 (eyeEnd_back q).1
          as_aux_lemma =>
            refine c_exit ?_
            refine e_then ?_
            refine e_up rfl ?_
            refine e_then ?_
            refine e_then ?_
            refine e_here ?_
            refine c_then ?_
            refine c_seq ?_
            refine c_seq (c_region ?_)
            refine wv h (r_move h rfl) rfl ?_
            clear h a w; intro a w h
            refine wl rfl (op_call h rfl K.go_digit_Eye_End (eye_EndI s _ b st2 _ 1 rfl h.2) rfl ?_)
            clear h a w; intro x a w hx h
            (try simp only [List.set_cons_zero, List.set_cons_succ] at h)
            refine wv h (r_bin h rfl rfl (B.neq_int)) rfl ?_
            clear h a w; intro a w h
            refine wv h (r_move h rfl) rfl ?_
            clear h a w; intro a w h
            refine wvG h (by first | exact .t rfl | exact .f rfl | exact .gt rfl | exact .gf rfl) (fun hg => by (try simp only [↓gval_on hg, ↓gval_and hg] at h); (have hg2 := hg; (try simp only [Bool.and_eq_true, Bool.or_eq_true, Bool.not_eq_true', decide_eq_true_eq, decide_eq_false_iff_not] at hg2)); first | exact r_move h rfl) rfl ?_
            clear h a w; intro a w h
            refine wcG h (by first | exact .t rfl | exact .f rfl | exact .gt rfl | exact .gf rfl) K.go_wire_Right (fun hg => by (try simp only [↓gval_on hg, ↓gval_and hg]); (have hg2 := hg; (try simp only [Bool.and_eq_true, Bool.or_eq_true, Bool.not_eq_true', decide_eq_true_eq, decide_eq_false_iff_not] at hg2)); exact ⟨_, rfl, wire_Right s _ _ l _ (by first | exact Views.own 0 rfl | exact Views.own 1 rfl | exact Views.own 2 rfl | exact Views.own 3 rfl | exact Views.own 4 rfl | exact Views.own 5 rfl | assumption | exact Views.of_drop 1 (by assumption) | exact Views.of_drop 2 (by assumption) | exact Views.of_drop 3 (by assumption) | exact Views.of_drop 4 (by assumption) | exact Views.of_drop 5 (by assumption) | exact Views.of_drop 6 (by assumption) | exact Views.of_drop 7 (by assumption) | exact Views.of_drop 8 (by assumption) | exact Views.of_drop 9 (by assumption) | exact Views.of_drop 10 (by assumption) | exact Views.of_drop 11 (by assumption) | exact Views.of_drop 12 (by assumption)) h.2⟩) rfl ?_
            clear h a w; intro a w h
            refine wvG h (by first | exact .t rfl | exact .f rfl | exact .gt rfl | exact .gf rfl) (fun hg => by (try simp only [↓gval_on hg, ↓gval_and hg] at h); (have hg2 := hg; (try simp only [Bool.and_eq_true, Bool.or_eq_true, Bool.not_eq_true', decide_eq_true_eq, decide_eq_false_iff_not] at hg2)); first | exact r_not h rfl) rfl ?_
            clear h a w; intro a w h
            first
              | (refine wv h (r_pickA h rfl rfl rfl) rfl ?_)
              | (refine wv h (r_pickO h rfl rfl rfl) rfl ?_)
              | (refine wv h (r_pick_true h rfl rfl) rfl ?_)
              | (refine wv h (r_pick_false h rfl rfl) rfl ?_)
              | (refine wv h (r_pick h rfl rfl rfl) rfl ?_)
            clear h a w; intro a w h
            refine wnil (c_then ?_)
            refine c_cond h rfl (fun ht4 => ?_) (fun ht4 => ?_)
            ·
              as_aux_lemma =>
                refine c_seq (c_region ?_)
                refine wv h (r_assign h rfl) rfl ?_
                clear h a w; intro a w h
                refine wv h (r_assign h rfl) rfl ?_
                clear h a w; intro a w h
                refine wnil (c_then ?_)
                refine c_ret ?_
                exact ret2 h rfl rfl rfl ⟨(.slice none 0 0, 7, []), rfl, (St.addNilM (size := 10) (cells := cellsE) ⟨h.1, h.2.drop 3⟩).2, DecR_none hnone⟩
            ·
              exfalso
              rw [decide_eq_true hend] at ht4
              simp at ht4
        ·
          replace h := h.front 2 rfl
          refine c_skip ?_
          refine c_then ?_
          refine c_drawn 8 K.mixed rfl h ?_
          clear h a w; intro a w h
          have hD : Paid s w [] := Paid.nil
          refine d_take0 (listed' := #[true, false, false, false, false, false, false, false]) h hD 0 (by as_aux_lemma => kernel_rfl) rfl (by as_aux_lemma => kernel_rfl) (by as_aux_lemma => kernel_rfl) (by as_aux_lemma => kernel_rfl) (fun _ _ _ _ hh => hh) (fun w h => by first | exact r_move h rfl) rfl ?_
          clear hD h a w; intro a w h hD
          refine d_take (listed' := #[true, true, false, false, false, false, false, false]) h hD 1 _ (by as_aux_lemma => kernel_rfl) rfl (by as_aux_lemma => kernel_rfl) (by as_aux_lemma => kernel_rfl) (by as_aux_lemma => kernel_rfl) (fun _ _ _ _ hh => hh) h.2 (fun w hw => by first | exact r_ldA ⟨h.1, hw⟩ rfl K.u_api_Elem rfl K.sz_api_Elem 0 rfl (by first | exact Row.len _ | rfl | assumption | (simp; done) | (simp; omega) | omega) | exact r_ldA ⟨h.1, hw⟩ rfl K.u_api_Elem rfl K.sz_api_Elem 1 rfl (by first | exact Row.len _ | rfl | assumption | (simp; done) | (simp; omega) | omega) | exact r_ldA ⟨h.1, hw⟩ rfl K.u_api_Elem rfl K.sz_api_Elem 2 rfl (by first | exact Row.len _ | rfl | assumption | (simp; done) | (simp; omega) | omega) | exact r_ldA ⟨h.1, hw⟩ rfl K.u_api_Elem rfl K.sz_api_Elem 3 rfl (by first | exact Row.len _ | rfl | assumption | (simp; done) | (simp; omega) | omega) | exact r_ldA ⟨h.1, hw⟩ rfl K.u_api_Elem rfl K.sz_api_Elem 4 rfl (by first | exact Row.len _ | rfl | assumption | (simp; done) | (simp; omega) | omega) | exact r_ldA ⟨h.1, hw⟩ rfl K.u_api_Elem rfl K.sz_api_Elem 5 rfl (by first | exact Row.len _ | rfl | assumption | (simp; done) | (simp; omega) | omega) | exact r_loadCA ⟨h.1, hw⟩ rfl K.u_api_Elem rfl K.sz_api_Elem (by assumption) (by first | rfl | assumption | (simp; done) | (simp; omega) | omega)) rfl ?_
          clear hD h a w; intro a w h hD
          refine d_take0 (listed' := #[true, true, false, false, true, false, false, false]) h hD 4 (by as_aux_lemma => kernel_rfl) rfl (by as_aux_lemma => kernel_rfl) (by as_aux_lemma => kernel_rfl) (by as_aux_lemma => kernel_rfl) (fun _ _ _ _ hh => hh) (fun w h => by first | exact r_fieldAddr0 h rfl K.u_api_Elem rfl K.sz_int rfl rfl) rfl ?_
          clear hD h a w; intro a w h hD
          refine d_take (listed' := #[true, true, false, false, true, true, false, false]) h hD 5 (Blk b7 (.cells ⟨cellsE e⟩ t_api_Elem) :: EyeI b st2 :: F) (by as_aux_lemma => kernel_rfl) rfl (by as_aux_lemma => kernel_rfl) (by as_aux_lemma => kernel_rfl) (by as_aux_lemma => kernel_rfl) (fun _ _ _ _ hh => hh) (by first | exact h.2 | exact h.2.drop 1 | exact h.2.drop 2 | exact h.2.drop 3 | exact h.2.drop 4 | exact h.2.drop 5 | exact h.2.drop 6 | exact h.2.drop 7) (fun w hw => by first | exact r_ldN ⟨h.1, hw⟩ rfl K.u_int rfl 0 rfl rfl | exact r_ldN ⟨h.1, hw⟩ rfl K.u_int rfl 1 rfl rfl | exact r_ldN ⟨h.1, hw⟩ rfl K.u_int rfl 2 rfl rfl | exact r_ldN ⟨h.1, hw⟩ rfl K.u_int rfl 3 rfl rfl | exact r_ldN ⟨h.1, hw⟩ rfl K.u_int rfl 4 rfl rfl | exact r_ldN ⟨h.1, hw⟩ rfl K.u_int rfl 5 rfl rfl | exact r_ldN ⟨h.1, hw⟩ rfl K.u_int rfl 6 rfl rfl | exact r_ldC (o := 0) ⟨h.1, hw⟩ rfl K.u_int rfl 0 rfl | exact r_ldC (o := 0) ⟨h.1, hw⟩ rfl K.u_int rfl 1 rfl | exact r_ldC (o := 0) ⟨h.1, hw⟩ rfl K.u_int rfl 2 rfl | exact r_ldC (o := 0) ⟨h.1, hw⟩ rfl K.u_int rfl 3 rfl | exact r_ldC (o := 0) ⟨h.1, hw⟩ rfl K.u_int rfl 4 rfl | exact r_ldC (o := 0) ⟨h.1, hw⟩ rfl K.u_int rfl 5 rfl | exact r_ldC (o := 0) ⟨h.1, hw⟩ rfl K.u_int rfl 6 rfl | exact r_load ⟨h.1, hw⟩ rfl K.u_int rfl 0 rfl rfl | exact r_load ⟨h.1, hw⟩ rfl K.u_int rfl 1 rfl rfl | exact r_load ⟨h.1, hw⟩ rfl K.u_int rfl 2 rfl rfl | exact r_load ⟨h.1, hw⟩ rfl K.u_int rfl 3 rfl rfl | exact r_load ⟨h.1, hw⟩ rfl K.u_int rfl 4 rfl rfl | exact r_load ⟨h.1, hw⟩ rfl K.u_int rfl 5 rfl rfl | exact r_load1 ⟨h.1, hw⟩ rfl K.u_int rfl (by assumption)) rfl ?_
          clear hD h a w; intro a w h hD
          refine d_only (listed' := #[true, true, true, false, true, true, false, false]) 2 [true, false] (by as_aux_lemma => kernel_rfl) rfl rfl (by as_aux_lemma => kernel_rfl) (by as_aux_lemma => kernel_rfl) ?_
          refine op_build1 h K.u_api_Chart K.sz_api_Elem K.z_api_Elem rfl rfl rfl (by first | exact Row.len _ | rfl | assumption | (simp; done) | (simp; omega) | omega) rfl ?_
          clear hD h a w; intro b51 a w h
          refine d_pay (Paid.cons (by first | exact h.2 | exact h.2.drop 1 | exact h.2.drop 2 | exact h.2.drop 3 | exact h.2.drop 4 | exact h.2.drop 5 | exact h.2.drop 6 | exact h.2.drop 7) (Paid.nil)) (fun hD => ?_)
          refine d_only (listed' := #[true, true, true, true, true, true, false, false]) 3 [true] (by as_aux_lemma => kernel_rfl) rfl rfl (by as_aux_lemma => kernel_rfl) (by as_aux_lemma => kernel_rfl) ?_
          first
            | (refine op_appendR1 h rfl rfl K.u_api_Chart K.sz_api_Elem K.z_api_Elem rfl rfl 0 rfl (by first | omega | (simp only [List.length_cons, List.length_nil]; omega) | (simp; done) | (simp; omega)) rfl ?_)
            | (refine op_appendR1 h rfl rfl K.u_api_Chart K.sz_api_Elem K.z_api_Elem rfl rfl 1 rfl (by first | omega | (simp only [List.length_cons, List.length_nil]; omega) | (simp; done) | (simp; omega)) rfl ?_)
            | (refine op_appendR1 h rfl rfl K.u_api_Chart K.sz_api_Elem K.z_api_Elem rfl rfl 2 rfl (by first | omega | (simp only [List.length_cons, List.length_nil]; omega) | (simp; done) | (simp; omega)) rfl ?_)
            | (refine op_appendR1 h rfl rfl K.u_api_Chart K.sz_api_Elem K.z_api_Elem rfl rfl 3 rfl (by first | omega | (simp only [List.length_cons, List.length_nil]; omega) | (simp; done) | (simp; omega)) rfl ?_)
            | (refine op_appendR1 h rfl rfl K.u_api_Chart K.sz_api_Elem K.z_api_Elem rfl rfl 4 rfl (by first | omega | (simp only [List.length_cons, List.length_nil]; omega) | (simp; done) | (simp; omega)) rfl ?_)
            | (refine op_appendR1 h rfl rfl K.u_api_Chart K.sz_api_Elem K.z_api_Elem rfl rfl 5 rfl (by first | omega | (simp only [List.length_cons, List.length_nil]; omega) | (simp; done) | (simp; omega)) rfl ?_)
          clear hD h a w; intro v52 a w h
          (try simp only [List.set_cons_zero, List.set_cons_succ] at h)
          refine d_pay (Paid.cons (by first | exact h.2 | exact h.2.drop 1 | exact h.2.drop 2 | exact h.2.drop 3 | exact h.2.drop 4 | exact h.2.drop 5 | exact h.2.drop 6 | exact h.2.drop 7) (Paid.nil)) (fun hD => ?_)
          refine d_take0 (listed' := #[true, true, true, true, true, true, true, false]) h hD 6 (by as_aux_lemma => kernel_rfl) rfl (by as_aux_lemma => kernel_rfl) (by as_aux_lemma => kernel_rfl) (by as_aux_lemma => kernel_rfl) (fun _ _ _ _ hh => hh) (fun w h => by first | exact r_assign h rfl) rfl ?_
          clear hD h a w; intro a w h hD
          refine d_take0 (listed' := #[true, true, true, true, true, true, true, true]) h hD 7 (by as_aux_lemma => kernel_rfl) rfl (by as_aux_lemma => kernel_rfl) (by as_aux_lemma => kernel_rfl) (by as_aux_lemma => kernel_rfl) (fun _ _ _ _ hh => hh) (fun w h => by first | exact r_assign h rfl) rfl ?_
          clear hD h a w; intro a w h hD
          refine d_done (by kernel_rfl) ?_
          clear hD
          refine b_normal ?_
          refine c_then ?_
          refine c_region ?_
          refine wv h (r_bin h rfl rfl (B.add_i64 (by omega) (by omega))) rfl ?_
          clear h a w; intro a w h
          refine wv h (r_move h rfl) rfl ?_
          clear h a w; intro a w h
          refine wnil ?_
          exact ⟨(i + 1, v52, l ++ [e], e.id, st2), ⟨(h.keep [4, 5, 6, 15, 16]).1, (h.2.rid 1).perm (.swap _ _ _)⟩, ⟨hstep, by show ((i + 1 : Nat) : Int) ≤ N; omega, hlen2, hid1.1, hid1.2, by show (l ++ [e]).length = i + 1; simp [hx6]⟩, by show 40 - (i + 1) < 40 - i; omega⟩
      ·
        have hiN : (i : Int) = N := by omega
        obtain ⟨hd1, hd2⟩ := DecI_end hx1 hiN
        refine c_exit ?_
        refine e_then ?_
        refine e_then ?_
        refine e_here ?_
        refine c_then ?_
        refine c_seq ?_
        refine c_seq (c_region ?_)
        refine wv h (r_move h rfl) rfl ?_
        clear h a w; intro a w h
        refine wl rfl (op_call h rfl K.go_digit_Eye_End (eye_EndI s _ b st _ 0 rfl h.2) rfl ?_)
        clear h a w; intro x a w hx h
        refine wv h (r_bin h rfl rfl (B.neq_int)) rfl ?_
        clear h a w; intro a w h
        refine wv h (r_move h rfl) rfl ?_
        clear h a w; intro a w h
        refine wvG h (by first | exact .t rfl | exact .f rfl | exact .gt rfl | exact .gf rfl) (fun hg => by (try simp only [↓gval_on hg, ↓gval_and hg] at h); (have hg2 := hg; (try simp only [Bool.and_eq_true, Bool.or_eq_true, Bool.not_eq_true', decide_eq_true_eq, decide_eq_false_iff_not] at hg2)); first | exact r_move h rfl) rfl ?_
        clear h a w; intro a w h
        refine wcG h (by first | exact .t rfl | exact .f rfl | exact .gt rfl | exact .gf rfl) K.go_wire_Right (fun hg => by (try simp only [↓gval_on hg, ↓gval_and hg]); (have hg2 := hg; (try simp only [Bool.and_eq_true, Bool.or_eq_true, Bool.not_eq_true', decide_eq_true_eq, decide_eq_false_iff_not] at hg2)); exact ⟨_, rfl, wire_Right s _ _ l _ (by first | exact Views.own 0 rfl | exact Views.own 1 rfl | exact Views.own 2 rfl | exact Views.own 3 rfl | exact Views.own 4 rfl | exact Views.own 5 rfl | assumption | exact Views.of_drop 1 (by assumption) | exact Views.of_drop 2 (by assumption) | exact Views.of_drop 3 (by assumption) | exact Views.of_drop 4 (by assumption) | exact Views.of_drop 5 (by assumption) | exact Views.of_drop 6 (by assumption) | exact Views.of_drop 7 (by assumption) | exact Views.of_drop 8 (by assumption) | exact Views.of_drop 9 (by assumption) | exact Views.of_drop 10 (by assumption) | exact Views.of_drop 11 (by assumption) | exact Views.of_drop 12 (by assumption)) h.2⟩) rfl ?_
        clear h a w; intro a w h
        refine wvG h (by first | exact .t rfl | exact .f rfl | exact .gt rfl | exact .gf rfl) (fun hg => by (try simp only [↓gval_on hg, ↓gval_and hg] at h); (have hg2 := hg; (try simp only [Bool.and_eq_true, Bool.or_eq_true, Bool.not_eq_true', decide_eq_true_eq, decide_eq_false_iff_not] at hg2)); first | exact r_not h rfl) rfl ?_
        clear h a w; intro a w h
        first
          | (refine wv h (r_pickA h rfl rfl rfl) rfl ?_)
          | (refine wv h (r_pickO h rfl rfl rfl) rfl ?_)
          | (refine wv h (r_pick_true h rfl rfl) rfl ?_)
          | (refine wv h (r_pick_false h rfl rfl) rfl ?_)
          | (refine wv h (r_pick h rfl rfl rfl) rfl ?_)
        clear h a w; intro a w h
        refine wnil (c_then ?_)
        refine c_cond h rfl (fun ht5 => ?_) (fun ht5 => ?_)
        ·
          have hno : ∀ c, RightC c → p ≠ encC c := fun c hc hp => by
            obtain ⟨q1, q2⟩ := hd2 c hc hp
            rw [q1, q2, (rightB_iff c).2 hc] at ht5
            simp at ht5
          as_aux_lemma =>
            refine c_seq (c_region ?_)
            refine wv h (r_assign h rfl) rfl ?_
            clear h a w; intro a w h
            refine wv h (r_assign h rfl) rfl ?_
            clear h a w; intro a w h
            refine wnil (c_then ?_)
            refine c_ret ?_
            exact ret2 h rfl rfl rfl ⟨(.slice none 0 0, 7, []), rfl, (St.addNilM (size := 10) (cells := cellsE) ⟨h.1, h.2.drop 2⟩).2, DecR_none hno⟩
        ·
          have hy1 : eyeEnd st = 0 := by
            refine Decidable.not_not.1 fun q => ?_
            rw [decide_eq_true q] at ht5; simp at ht5
          have hy2 : rightB l = true := by
            cases q : rightB l with
            | true => rfl
            | false => rw [q] at ht5; simp at ht5
          refine c_skip ?_
          refine c_then ?_
          refine c_seq (c_region ?_)
          refine wv h (r_move h rfl) rfl ?_
          clear h a w; intro a w h
          refine wv h (r_assign h rfl) rfl ?_
          clear h a w; intro a w h
          refine wv h (r_assign h rfl) rfl ?_
          clear h a w; intro a w h
          refine wnil (c_then ?_)
          refine c_ret ?_
          exact ret2 h rfl rfl rfl ⟨(cv, 0, l), rfl, h.2.drop 1, .inr ⟨rfl, (rightB_iff l).1 hy2, hd1 hy1⟩, fun c hc hp => ⟨rfl, (hd2 c hc hp).2⟩⟩
end Go.Proofs.K
