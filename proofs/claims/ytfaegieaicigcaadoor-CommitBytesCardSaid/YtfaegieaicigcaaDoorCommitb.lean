/- The contracts of package commit: a commit out of bytes; are two one? -/
import Derived.Test.YtfaegieaicigcaaDoorCommit
set_option linter.unusedVariables false
set_option linter.unusedSimpArgs false
set_option maxRecDepth 10000
set_option maxHeartbeats 2000000
namespace Go.Proofs.K
open Go.Sl
attribute [local irreducible] Go.Sl.Own Go.Sl.Blk Go.Sl.Sep Go.Sl.Ex Go.Sl.Fact
attribute [local irreducible] PenI EyeI

theorem commit_key (s w : World) (b : Nat) (st : Int × List UInt8) (L : List HItem) (i : Nat) (hi : L[i]? = some (EyeI b st)) (hl : st.2.length ≤ 4294967296) (hs : Sat s w L) :
    Calls P n_commit_key #[.pointer (some ⟨b, 0, none⟩)] w (Ret s (fun _ : Unit => .agg ⟨cellsA (keyN st).1⟩) (fun _ => L.set i (EyeI b (keyN st).2)) (fun _ => True)) := by
  refine at0 i hi hs fun F hF hs2 => ?_
  clear hs hi hF
  replace hs := hs2
  clear hs2
  refine enter K.fn_commit_key rfl K.nt_commit_key rfl hs ?_
  clear hs w; intro a w h
  refine c_seq (c_region ?_)
  refine wl rfl (op_alloc h K.z_api_Key rfl ?_)
  clear h a w; intro b2 a w h
  rw [show (Value.agg (Array.replicate 32 (Value.int .u8 0))).cells = arr8 (List.replicate 32 0) from (arr8_zero 32).symm] at h
  refine wnil (c_then ?_)
  refine c_seq (c_region ?_)
  refine wl rfl (op_alloc h K.z_api_Key rfl ?_)
  clear h a w; intro b3 a w h
  rw [show (Value.agg (Array.replicate 32 (Value.int .u8 0))).cells = arr8 (List.replicate 32 0) from (arr8_zero 32).symm] at h
  refine wnil (c_then ?_)
  refine c_seq (c_drawn 4 K.mixed rfl h ?_)
  clear h a w; intro a w h
  have hD : Paid s w [] := Paid.nil
  refine d_take0 (listed' := #[true, false, false, false]) h hD 0 (by as_aux_lemma => kernel_rfl) rfl (by as_aux_lemma => kernel_rfl) (by as_aux_lemma => kernel_rfl) (by as_aux_lemma => kernel_rfl) (fun _ _ _ _ hh => hh) (fun w h => by first | exact r_sliceA h rfl K.u_api_Key K.sz_uint8 rfl) rfl ?_
  clear hD h a w; intro a w h hD
  refine d_take0 (listed' := #[true, true, false, false]) h hD 1 (by as_aux_lemma => kernel_rfl) rfl (by as_aux_lemma => kernel_rfl) (by as_aux_lemma => kernel_rfl) (by as_aux_lemma => kernel_rfl) (fun _ _ _ _ hh => hh) (fun w h => by first | exact r_move h rfl) rfl ?_
  clear hD h a w; intro a w h hD
  refine d_only (listed' := #[true, true, true, false]) 2 [] (by as_aux_lemma => kernel_rfl) rfl rfl (by as_aux_lemma => kernel_rfl) (by as_aux_lemma => kernel_rfl) ?_
  first
    | (refine op_call h rfl K.go_digit_Eye_Raw (eye_Raw s _ _ _ _ _ 0 rfl (by first | omega | assumption | (dsimp only; omega)) h.2) rfl ?_)
    | (refine op_call h rfl K.go_digit_Eye_Raw (eye_Raw s _ _ _ _ _ 1 rfl (by first | omega | assumption | (dsimp only; omega)) h.2) rfl ?_)
    | (refine op_call h rfl K.go_digit_Eye_Raw (eye_Raw s _ _ _ _ _ 2 rfl (by first | omega | assumption | (dsimp only; omega)) h.2) rfl ?_)
    | (refine op_call h rfl K.go_digit_Eye_Raw (eye_Raw s _ _ _ _ _ 3 rfl (by first | omega | assumption | (dsimp only; omega)) h.2) rfl ?_)
    | (refine op_call h rfl K.go_digit_Eye_Raw (eye_Raw s _ _ _ _ _ 4 rfl (by first | omega | assumption | (dsimp only; omega)) h.2) rfl ?_)
    | (refine op_call h rfl K.go_digit_Eye_Raw (eye_Raw s _ _ _ _ _ 5 rfl (by first | omega | assumption | (dsimp only; omega)) h.2) rfl ?_)
  clear hD h a w; intro v6 a w hx h
  (try simp only [List.set_cons_zero, List.set_cons_succ] at h)
  refine d_pay (Paid.nil) (fun hD => ?_)
  refine d_only (listed' := #[true, true, true, true]) 3 [] (by as_aux_lemma => kernel_rfl) rfl rfl (by as_aux_lemma => kernel_rfl) (by as_aux_lemma => kernel_rfl) ?_
  first
    | refine op_copyBlk h rfl rfl K.u_S_uint8 K.sz_uint8 1 rfl (ViewsB.own 0 rfl) (by simp) rfl ?_
    | refine op_copyBlk h rfl rfl K.u_S_uint8 K.sz_uint8 0 rfl (ViewsB.own 1 rfl) (by simp) rfl ?_
  clear hD h a w; intro a w h
  (try simp only [List.set_cons_zero, List.set_cons_succ] at h)
  rw [show splice ⟨List.map bv (List.replicate 32 0)⟩ 0 (bs (List.take 32 (eyeRaw st 32).1)) = arr8 (keyN st).1.val from splice_zero 32 _] at h
  refine d_pay (Paid.nil) (fun hD => ?_)
  refine d_done (by kernel_rfl) ?_
  clear hD
  refine c_then ?_
  refine c_seq (c_region ?_)
  first
    | (refine wv h (r_loadA8 h rfl K.u_api_Key rfl K.sz_api_Key 0 rfl (by first | rfl | assumption | (simp; done) | (simp; omega) | omega)) rfl ?_)
    | (refine wv h (r_loadA8 h rfl K.u_api_Key rfl K.sz_api_Key 1 rfl (by first | rfl | assumption | (simp; done) | (simp; omega) | omega)) rfl ?_)
    | (refine wv h (r_loadA8 h rfl K.u_api_Key rfl K.sz_api_Key 2 rfl (by first | rfl | assumption | (simp; done) | (simp; omega) | omega)) rfl ?_)
    | (refine wv h (r_loadA8 h rfl K.u_api_Key rfl K.sz_api_Key 3 rfl (by first | rfl | assumption | (simp; done) | (simp; omega) | omega)) rfl ?_)
    | (refine wv h (r_loadA8 h rfl K.u_api_Key rfl K.sz_api_Key 4 rfl (by first | rfl | assumption | (simp; done) | (simp; omega) | omega)) rfl ?_)
    | (refine wv h (r_loadA8 h rfl K.u_api_Key rfl K.sz_api_Key 5 rfl (by first | rfl | assumption | (simp; done) | (simp; omega) | omega)) rfl ?_)
    | (refine wv h (r_loadCA h rfl K.u_api_Key rfl K.sz_api_Key (by assumption) (by first | rfl | assumption | (simp; done) | (simp; omega) | omega)) rfl ?_)
  clear h a w; intro a w h
  first
    | (refine wl rfl (op_storeA8 h rfl rfl K.sz_api_Key (by first | rfl | assumption | (simp; done) | (simp; omega) | omega) 0 rfl (by first | rfl | (simp [arr8]; done) | (simp [arr8]; omega) | (simp [arr8]; assumption)) ?_))
    | (refine wl rfl (op_storeA8 h rfl rfl K.sz_api_Key (by first | rfl | assumption | (simp; done) | (simp; omega) | omega) 1 rfl (by first | rfl | (simp [arr8]; done) | (simp [arr8]; omega) | (simp [arr8]; assumption)) ?_))
    | (refine wl rfl (op_storeA8 h rfl rfl K.sz_api_Key (by first | rfl | assumption | (simp; done) | (simp; omega) | omega) 2 rfl (by first | rfl | (simp [arr8]; done) | (simp [arr8]; omega) | (simp [arr8]; assumption)) ?_))
    | (refine wl rfl (op_storeA8 h rfl rfl K.sz_api_Key (by first | rfl | assumption | (simp; done) | (simp; omega) | omega) 3 rfl (by first | rfl | (simp [arr8]; done) | (simp [arr8]; omega) | (simp [arr8]; assumption)) ?_))
    | (refine wl rfl (op_storeA8 h rfl rfl K.sz_api_Key (by first | rfl | assumption | (simp; done) | (simp; omega) | omega) 4 rfl (by first | rfl | (simp [arr8]; done) | (simp [arr8]; omega) | (simp [arr8]; assumption)) ?_))
    | (refine wl rfl (op_storeA8 h rfl rfl K.sz_api_Key (by first | rfl | assumption | (simp; done) | (simp; omega) | omega) 5 rfl (by first | rfl | (simp [arr8]; done) | (simp [arr8]; omega) | (simp [arr8]; assumption)) ?_))
  clear h a w; intro a w h
  (try simp only [List.set_cons_zero, List.set_cons_succ] at h)
  refine wnil (c_then ?_)
  refine c_ret ?_
  exact retc h rfl rfl K.u_api_Key rfl K.sz_api_Key 2 rfl (by simp [arr8]) ⟨(), rfl, h.2.drop 3, trivial⟩

theorem commit_Decode (s w : World) (pv : Value) (p : List UInt8) (F : List HItem) (hpl : p.length ≤ 1000000) (hp : ViewsB F pv p) (hs : Sat s w F) :
    Calls P n_commit_Decode #[pv] w (Ret s (fun v : Value => .tuple #[.agg ⟨cmC (decC p).chart v (sv (decC p).note)⟩, .int .i64 (if okD p = true then 0 else 7)]) (fun v => OwnM 32 cellsA v (decC p).parents :: F) (fun _ => True)) := by
  have l1 := eyeRaw_len (0, p) 2
  refine enter K.fn_commit_Decode rfl K.nt_commit_Decode rfl hs ?_
  clear hs w; intro a w h
  refine c_seq (c_region ?_)
  refine wl rfl (op_alloc h K.z_api_Commit rfl ?_)
  clear h a w; intro b2 a w h
  replace h : St 41 s a w _ (Blk b2 (.cells ⟨cmC (BA.zero 32) (.slice none 0 0) (sv [])⟩ t_api_Commit) :: F) := h
  refine wv h (r_assign h rfl) rfl ?_
  clear h a w; intro a w h
  refine wnil (c_then ?_)
  refine c_seq (c_region ?_)
  refine wv h (r_move h rfl) rfl ?_
  clear h a w; intro a w h
  refine wl rfl (op_call h rfl K.go_digit_NewEye (eye_New s _ _ _ _ (by first | exact ViewsB.own 0 rfl | exact ViewsB.own 1 rfl | exact ViewsB.own 2 rfl | exact ViewsB.own 3 rfl | exact ViewsB.own 4 rfl | exact ViewsB.own 5 rfl | assumption | exact ViewsB.nil _ | exact ViewsB.arr 0 rfl (by first | assumption | rfl | (simp; done)) (Nat.le_refl _) (by simp [maxLen]) | exact ViewsB.arr 1 rfl (by first | assumption | rfl | (simp; done)) (Nat.le_refl _) (by simp [maxLen]) | exact ViewsB.arr 2 rfl (by first | assumption | rfl | (simp; done)) (Nat.le_refl _) (by simp [maxLen]) | exact ViewsB.arr 3 rfl (by first | assumption | rfl | (simp; done)) (Nat.le_refl _) (by simp [maxLen]) | exact ViewsB.arr 4 rfl (by first | assumption | rfl | (simp; done)) (Nat.le_refl _) (by simp [maxLen]) | exact ViewsB.of_drop 1 (by assumption) | exact ViewsB.of_drop 2 (by assumption) | exact ViewsB.of_drop 3 (by assumption) | exact ViewsB.of_drop 4 (by assumption) | exact ViewsB.of_drop 5 (by assumption) | exact ViewsB.of_drop 6 (by assumption) | exact ViewsB.of_drop 7 (by assumption) | exact ViewsB.of_drop 8 (by assumption) | exact ViewsB.of_drop 9 (by assumption) | exact ViewsB.of_drop 10 (by assumption) | exact ViewsB.of_drop 11 (by assumption) | exact ViewsB.of_drop 12 (by assumption) | exact ViewsB.sub (by first | exact ViewsB.own 0 rfl | exact ViewsB.own 1 rfl | exact ViewsB.own 2 rfl | exact ViewsB.own 3 rfl | exact ViewsB.own 4 rfl | exact ViewsB.own 5 rfl | assumption | exact ViewsB.nil _ | exact ViewsB.arr 0 rfl (by first | assumption | rfl | (simp; done)) (Nat.le_refl _) (by simp [maxLen]) | exact ViewsB.arr 1 rfl (by first | assumption | rfl | (simp; done)) (Nat.le_refl _) (by simp [maxLen]) | exact ViewsB.arr 2 rfl (by first | assumption | rfl | (simp; done)) (Nat.le_refl _) (by simp [maxLen]) | exact ViewsB.arr 3 rfl (by first | assumption | rfl | (simp; done)) (Nat.le_refl _) (by simp [maxLen]) | exact ViewsB.arr 4 rfl (by first | assumption | rfl | (simp; done)) (Nat.le_refl _) (by simp [maxLen]) | exact ViewsB.of_drop 1 (by assumption) | exact ViewsB.of_drop 2 (by assumption) | exact ViewsB.of_drop 3 (by assumption) | exact ViewsB.of_drop 4 (by assumption) | exact ViewsB.of_drop 5 (by assumption) | exact ViewsB.of_drop 6 (by assumption) | exact ViewsB.of_drop 7 (by assumption) | exact ViewsB.of_drop 8 (by assumption) | exact ViewsB.of_drop 9 (by assumption) | exact ViewsB.of_drop 10 (by assumption) | exact ViewsB.of_drop 11 (by assumption) | exact ViewsB.of_drop 12 (by assumption)) (by omega) (by first | omega | (simp; done) | (simp; omega))) (by first | omega | (simp only [List.length_cons, List.length_nil]; omega) | (simp; done) | (simp; omega)) h.2) rfl ?_)
  clear h a w; intro b7 a w hx h
  (try simp only [List.set_cons_zero, List.set_cons_succ] at h)
  refine wv h (r_assign h rfl) rfl ?_
  clear h a w; intro a w h
  refine wnil (c_then ?_)
  refine c_seq ?_
  refine c_seq (c_region ?_)
  refine wv h (r_move h rfl) rfl ?_
  clear h a w; intro a w h
  first
    | (refine wl rfl (op_call h rfl K.go_digit_Eye_Raw (eye_Raw s _ _ _ _ _ 0 rfl (by first | omega | assumption | (dsimp only; omega)) h.2) rfl ?_))
    | (refine wl rfl (op_call h rfl K.go_digit_Eye_Raw (eye_Raw s _ _ _ _ _ 1 rfl (by first | omega | assumption | (dsimp only; omega)) h.2) rfl ?_))
    | (refine wl rfl (op_call h rfl K.go_digit_Eye_Raw (eye_Raw s _ _ _ _ _ 2 rfl (by first | omega | assumption | (dsimp only; omega)) h.2) rfl ?_))
    | (refine wl rfl (op_call h rfl K.go_digit_Eye_Raw (eye_Raw s _ _ _ _ _ 3 rfl (by first | omega | assumption | (dsimp only; omega)) h.2) rfl ?_))
    | (refine wl rfl (op_call h rfl K.go_digit_Eye_Raw (eye_Raw s _ _ _ _ _ 4 rfl (by first | omega | assumption | (dsimp only; omega)) h.2) rfl ?_))
    | (refine wl rfl (op_call h rfl K.go_digit_Eye_Raw (eye_Raw s _ _ _ _ _ 5 rfl (by first | omega | assumption | (dsimp only; omega)) h.2) rfl ?_))
  clear h a w; intro v9 a w hx h
  (try simp only [List.set_cons_zero, List.set_cons_succ] at h)
  refine wv h (r_b2sb h rfl K.u_S_uint8 K.u_uint8 K.u_string (by first | exact ViewsB.own 0 rfl | exact ViewsB.own 1 rfl | exact ViewsB.own 2 rfl | exact ViewsB.own 3 rfl | exact ViewsB.own 4 rfl | exact ViewsB.own 5 rfl | assumption | exact ViewsB.nil _ | exact ViewsB.arr 0 rfl (by first | assumption | rfl | (simp; done)) (Nat.le_refl _) (by simp [maxLen]) | exact ViewsB.arr 1 rfl (by first | assumption | rfl | (simp; done)) (Nat.le_refl _) (by simp [maxLen]) | exact ViewsB.arr 2 rfl (by first | assumption | rfl | (simp; done)) (Nat.le_refl _) (by simp [maxLen]) | exact ViewsB.arr 3 rfl (by first | assumption | rfl | (simp; done)) (Nat.le_refl _) (by simp [maxLen]) | exact ViewsB.arr 4 rfl (by first | assumption | rfl | (simp; done)) (Nat.le_refl _) (by simp [maxLen]) | exact ViewsB.of_drop 1 (by assumption) | exact ViewsB.of_drop 2 (by assumption) | exact ViewsB.of_drop 3 (by assumption) | exact ViewsB.of_drop 4 (by assumption) | exact ViewsB.of_drop 5 (by assumption) | exact ViewsB.of_drop 6 (by assumption) | exact ViewsB.of_drop 7 (by assumption) | exact ViewsB.of_drop 8 (by assumption) | exact ViewsB.of_drop 9 (by assumption) | exact ViewsB.of_drop 10 (by assumption) | exact ViewsB.of_drop 11 (by assumption) | exact ViewsB.of_drop 12 (by assumption) | exact ViewsB.sub (by first | exact ViewsB.own 0 rfl | exact ViewsB.own 1 rfl | exact ViewsB.own 2 rfl | exact ViewsB.own 3 rfl | exact ViewsB.own 4 rfl | exact ViewsB.own 5 rfl | assumption | exact ViewsB.nil _ | exact ViewsB.arr 0 rfl (by first | assumption | rfl | (simp; done)) (Nat.le_refl _) (by simp [maxLen]) | exact ViewsB.arr 1 rfl (by first | assumption | rfl | (simp; done)) (Nat.le_refl _) (by simp [maxLen]) | exact ViewsB.arr 2 rfl (by first | assumption | rfl | (simp; done)) (Nat.le_refl _) (by simp [maxLen]) | exact ViewsB.arr 3 rfl (by first | assumption | rfl | (simp; done)) (Nat.le_refl _) (by simp [maxLen]) | exact ViewsB.arr 4 rfl (by first | assumption | rfl | (simp; done)) (Nat.le_refl _) (by simp [maxLen]) | exact ViewsB.of_drop 1 (by assumption) | exact ViewsB.of_drop 2 (by assumption) | exact ViewsB.of_drop 3 (by assumption) | exact ViewsB.of_drop 4 (by assumption) | exact ViewsB.of_drop 5 (by assumption) | exact ViewsB.of_drop 6 (by assumption) | exact ViewsB.of_drop 7 (by assumption) | exact ViewsB.of_drop 8 (by assumption) | exact ViewsB.of_drop 9 (by assumption) | exact ViewsB.of_drop 10 (by assumption) | exact ViewsB.of_drop 11 (by assumption) | exact ViewsB.of_drop 12 (by assumption)) (by omega) (by first | omega | (simp; done) | (simp; omega)))) rfl ?_
  clear h a w; intro a w h
  refine wv h (r_strne h rfl rfl) rfl ?_
  clear h a w; intro a w h
  refine wnil (c_then ?_)
  first
    | refine c_condD h rfl (fun ht1 => ?_) (fun ht1 => ?_)
    | refine c_condP h rfl (by first | (simp only [Bool.and_eq_true, Bool.or_eq_true, Bool.not_eq_true', decide_eq_true_eq, decide_eq_false_iff_not, ne_eq, Bool.not_eq_eq_eq_not, Bool.not_true, beq_iff_eq, bne_iff_ne]; exact Iff.rfl) | exact Iff.rfl) (fun ht1 => ?_) (fun ht1 => ?_)
  ·
    have e : okD p = false := by simp [okD, ht1]
    have e2 : decC p = zeroC := by rw [decC, e]; rfl
    rw [e2, e]
    as_aux_lemma =>
      refine c_seq (c_region ?_)
      refine wv h (r_build (cells := ⟨cmC (BA.zero 32) (.slice none 0 0) (sv [])⟩) h K.u_api_Commit K.z_api_Commit K.pl_api_Commit rfl (by kernel_rfl)) rfl ?_
      clear h a w; intro a w h
      refine wl rfl (op_stA h rfl rfl K.sz_api_Commit (cmC_len _ _ _) (cmC_one rfl rfl) 2 rfl rfl ?_)
      clear h a w; intro a w h
      refine wv h (r_assign h rfl) rfl ?_
      clear h a w; intro a w h
      refine wnil (c_then ?_)
      refine c_ret ?_
      exact retct h rfl rfl rfl K.u_api_Commit rfl K.sz_api_Commit 2 rfl (by show (cmC _ _ _).length = 34; simp) ⟨.slice none 0 0, rfl, ((h.drop 3).addNilM (size := 32) (cells := cellsA (n := 32))).2, trivial⟩
  ·
    have hmk : (eyeRaw (0, p) 2).1 = [75, 49] := by simpa using ht1
    have hdB : okD p = (decide (eyeEnd (decB (eyeRaw (0, p) 2).2).2 = 0) && rightC (decB (eyeRaw (0, p) 2).2).1) := by simp [okD, hmk]
    have hdC : decC p = if okD p = true then (decB (eyeRaw (0, p) 2).2).1 else zeroC := rfl
    obtain ⟨st1, hst1⟩ : ∃ x, x = (eyeRaw (0, p) 2).2 := ⟨_, rfl⟩
    rw [← hst1] at h l1 hdB hdC
    have l2 : (keyN st1).2.2.length ≤ st1.2.length := eyeRaw_len st1 32
    have l3 := eyeNum_len' (keyN st1).2 2
    obtain ⟨q0, q2⟩ := eyeNum_most (keyN st1).2 2
    obtain ⟨m, hm⟩ : ∃ m : Nat, (eyeNum (keyN st1).2 2).1 = (m : Int) := ⟨_, (Int.toNat_of_nonneg q0).symm⟩
    replace h := h.drop 1
    dsimp only at l1
    obtain ⟨ch, hch⟩ : ∃ x, x = (keyN st1).1 := ⟨_, rfl⟩
    have hdd : decB st1 = (⟨ch, (keysN m (eyeNum (keyN st1).2 2).2).1, (eyeText (keysN m (eyeNum (keyN st1).2 2).2).2 30).1⟩, (eyeText (keysN m (eyeNum (keyN st1).2 2).2).2 30).2) := by rw [decB, hm, hch]; rfl
    rw [hdd] at hdB hdC
    refine c_skip ?_
    refine c_then ?_
    refine c_seq (c_region ?_)
    refine wv h (r_move h rfl) rfl ?_
    clear h a w; intro a w h
    first
      | (refine wl rfl (op_call h rfl K.go_commit_key (commit_key s _ _ _ _ 0 rfl (by first | omega | assumption | (dsimp only; omega)) h.2) rfl ?_))
      | (refine wl rfl (op_call h rfl K.go_commit_key (commit_key s _ _ _ _ 1 rfl (by first | omega | assumption | (dsimp only; omega)) h.2) rfl ?_))
      | (refine wl rfl (op_call h rfl K.go_commit_key (commit_key s _ _ _ _ 2 rfl (by first | omega | assumption | (dsimp only; omega)) h.2) rfl ?_))
      | (refine wl rfl (op_call h rfl K.go_commit_key (commit_key s _ _ _ _ 3 rfl (by first | omega | assumption | (dsimp only; omega)) h.2) rfl ?_))
      | (refine wl rfl (op_call h rfl K.go_commit_key (commit_key s _ _ _ _ 4 rfl (by first | omega | assumption | (dsimp only; omega)) h.2) rfl ?_))
      | (refine wl rfl (op_call h rfl K.go_commit_key (commit_key s _ _ _ _ 5 rfl (by first | omega | assumption | (dsimp only; omega)) h.2) rfl ?_))
    clear h a w; intro x a w hx h
    (try simp only [List.set_cons_zero, List.set_cons_succ] at h)
    refine wv h (r_build (cells := ⟨cmC (keyN st1).1 (.slice none 0 0) (sv [])⟩) h K.u_api_Commit K.z_api_Commit K.pl_api_Commit rfl (fillC _ (BA.len' _) _ (by rfl))) rfl ?_
    clear h a w; intro a w h
    refine wl rfl (op_alloc h K.z_api_Commit rfl ?_)
    clear h a w; intro b5 a w h
    refine wl rfl (op_stA h rfl rfl K.sz_api_Commit (cmC_len _ _ _) (cmC_one rfl rfl) 0 rfl rfl ?_)
    clear h a w; intro a w h
    refine wnil (c_then ?_)
    refine c_seq ?_
    refine c_seq (c_region ?_)
    refine wv h (r_move h rfl) rfl ?_
    clear h a w; intro a w h
    first
      | (refine wl rfl (op_call h rfl K.go_digit_Eye_Num (eye_Num s _ _ _ _ _ 0 rfl (by omega) (by omega) (by first | omega | assumption | (dsimp only; omega)) h.2) rfl ?_))
      | (refine wl rfl (op_call h rfl K.go_digit_Eye_Num (eye_Num s _ _ _ _ _ 1 rfl (by omega) (by omega) (by first | omega | assumption | (dsimp only; omega)) h.2) rfl ?_))
      | (refine wl rfl (op_call h rfl K.go_digit_Eye_Num (eye_Num s _ _ _ _ _ 2 rfl (by omega) (by omega) (by first | omega | assumption | (dsimp only; omega)) h.2) rfl ?_))
      | (refine wl rfl (op_call h rfl K.go_digit_Eye_Num (eye_Num s _ _ _ _ _ 3 rfl (by omega) (by omega) (by first | omega | assumption | (dsimp only; omega)) h.2) rfl ?_))
      | (refine wl rfl (op_call h rfl K.go_digit_Eye_Num (eye_Num s _ _ _ _ _ 4 rfl (by omega) (by omega) (by first | omega | assumption | (dsimp only; omega)) h.2) rfl ?_))
      | (refine wl rfl (op_call h rfl K.go_digit_Eye_Num (eye_Num s _ _ _ _ _ 5 rfl (by omega) (by omega) (by first | omega | assumption | (dsimp only; omega)) h.2) rfl ?_))
    clear h a w; intro x a w hx h
    (try simp only [List.set_cons_zero, List.set_cons_succ] at h)
    rw [hm, ← hch] at h
    obtain ⟨st3, hst3⟩ : ∃ x, x = (eyeNum (keyN st1).2 2).2 := ⟨_, rfl⟩
    rw [← hst3] at h l3 hdB hdC
    refine wv h (r_move h rfl) rfl ?_
    clear h a w; intro a w h
    refine wnil (c_then ?_)
    refine c_block ?_
    have h0 : St 41 s a w [(2, .pointer (some ⟨b2, 0, none⟩)), (3, .int .i64 0), (4, .pointer (some ⟨b7, 0, none⟩)), (5, .pointer (some ⟨b5, 0, none⟩)), (17, .int .i64 (m : Int)), (18, .int .i64 ((0 : Nat) : Int))]
        (EyeI b7 st3 :: OwnM 32 cellsA (.slice none 0 0) ([] : List K32) :: Blk b5 (.cells ⟨cmC ch (.slice none 0 0) (sv [])⟩ t_api_Commit) :: Blk b2 (.cells ⟨cmC (BA.zero 32) (.slice none 0 0) (sv [])⟩ t_api_Commit) :: F) := (((h.keep [2, 3, 4, 5, 17, 18]).front 1 rfl).addNilM (size := 32) (cells := cellsA (n := 32))).mem (fun z => z.perm (.swap _ _ _))
    refine c_loopX h (X := Nat × Value × List K32 × (Int × List UInt8)) (fun x => [(2, .pointer (some ⟨b2, 0, none⟩)), (3, .int .i64 0), (4, .pointer (some ⟨b7, 0, none⟩)), (5, .pointer (some ⟨b5, 0, none⟩)), (17, .int .i64 (m : Int)), (18, .int .i64 (x.1 : Int))])
      (fun x => EyeI b7 x.2.2.2 :: OwnM 32 cellsA x.2.1 x.2.2.1 :: Blk b5 (.cells ⟨cmC ch x.2.1 (sv [])⟩ t_api_Commit) :: Blk b2 (.cells ⟨cmC (BA.zero 32) (.slice none 0 0) (sv [])⟩ t_api_Commit) :: F)
      (fun x => x.1 ≤ m ∧ x.2.2.2.2.length ≤ 1000000 ∧ x.2.2.1.length = x.1 ∧ (keysN m st3).1 = x.2.2.1 ++ (keysN (m - x.1) x.2.2.2).1 ∧ (keysN m st3).2 = (keysN (m - x.1) x.2.2.2).2) (fun x => m - x.1) (0, .slice none 0 0, [], st3) h0
      ⟨Nat.zero_le _, by show st3.2.length ≤ _; omega, rfl, rfl, rfl⟩ ?_
    clear h0
    clear h a w; intro x a w hx h
    obtain ⟨i, v, ks, st⟩ := x
    obtain ⟨hx1, hx2, hx3, hx4, hx5⟩ := hx
    dsimp only at hx1 hx2 hx3 hx4 hx5 h
    as_aux_lemma =>
      refine c_seq (c_region ?_)
      refine wv h (r_bin h rfl rfl (B.lss_int)) rfl ?_
      clear h a w; intro a w h
      refine wnil (c_then ?_)
      refine c_seq ?_
      first
        | refine c_condD h rfl (fun ht2 => ?_) (fun ht2 => ?_)
        | refine c_condP h rfl (by first | (simp only [Bool.and_eq_true, Bool.or_eq_true, Bool.not_eq_true', decide_eq_true_eq, decide_eq_false_iff_not, ne_eq, Bool.not_eq_eq_eq_not, Bool.not_true, beq_iff_eq, bne_iff_ne]; exact Iff.rfl) | exact Iff.rfl) (fun ht2 => ?_) (fun ht2 => ?_)
      ·
        have l4 : (keyN st).2.2.length ≤ st.2.length := eyeRaw_len st 32
        rw [show m - i = (m - (i + 1)) + 1 by omega, keysN] at hx4 hx5
        refine c_skip ?_
        refine c_then ?_
        refine c_seq ?_
        refine c_block ?_
        refine c_drawn 8 K.mixed rfl h ?_
        clear h a w; intro a w h
        have hD : Paid s w [] := Paid.nil
        refine d_take0 (listed' := #[true, false, false, false, false, false, false, false]) h hD 0 (by as_aux_lemma => kernel_rfl) rfl (by as_aux_lemma => kernel_rfl) (by as_aux_lemma => kernel_rfl) (by as_aux_lemma => kernel_rfl) (fun _ _ _ _ hh => hh) (fun w h => by first | exact r_fieldAddr h 32 rfl K.u_api_Commit rfl K.sz_S_api_Key rfl rfl) rfl ?_
        clear hD h a w; intro a w h hD
        refine d_take (listed' := #[true, true, false, false, false, false, false, false]) h hD 1 (Blk b5 (.cells ⟨cmC ch v (sv [])⟩ t_api_Commit) :: Blk b2 (.cells ⟨cmC (BA.zero 32) (.slice none 0 0) (sv [])⟩ t_api_Commit) :: F) (by as_aux_lemma => kernel_rfl) rfl (by as_aux_lemma => kernel_rfl) (by as_aux_lemma => kernel_rfl) (by as_aux_lemma => kernel_rfl) (fun _ _ _ _ hh => hh) (by first | exact h.2 | exact h.2.drop 1 | exact h.2.drop 2 | exact h.2.drop 3 | exact h.2.drop 4 | exact h.2.drop 5 | exact h.2.drop 6 | exact h.2.drop 7) (fun w hw => by first | exact r_ldN ⟨h.1, hw⟩ rfl K.u_S_api_Key rfl 0 rfl rfl | exact r_ldN ⟨h.1, hw⟩ rfl K.u_S_api_Key rfl 1 rfl rfl | exact r_ldN ⟨h.1, hw⟩ rfl K.u_S_api_Key rfl 2 rfl rfl | exact r_ldN ⟨h.1, hw⟩ rfl K.u_S_api_Key rfl 3 rfl rfl | exact r_ldN ⟨h.1, hw⟩ rfl K.u_S_api_Key rfl 4 rfl rfl | exact r_ldN ⟨h.1, hw⟩ rfl K.u_S_api_Key rfl 5 rfl rfl | exact r_ldN ⟨h.1, hw⟩ rfl K.u_S_api_Key rfl 6 rfl rfl | exact r_ldC (o := 32) ⟨h.1, hw⟩ rfl K.u_S_api_Key rfl 0 rfl | exact r_ldC (o := 32) ⟨h.1, hw⟩ rfl K.u_S_api_Key rfl 1 rfl | exact r_ldC (o := 32) ⟨h.1, hw⟩ rfl K.u_S_api_Key rfl 2 rfl | exact r_ldC (o := 32) ⟨h.1, hw⟩ rfl K.u_S_api_Key rfl 3 rfl | exact r_ldC (o := 32) ⟨h.1, hw⟩ rfl K.u_S_api_Key rfl 4 rfl | exact r_ldC (o := 32) ⟨h.1, hw⟩ rfl K.u_S_api_Key rfl 5 rfl | exact r_ldC (o := 32) ⟨h.1, hw⟩ rfl K.u_S_api_Key rfl 6 rfl | exact r_load ⟨h.1, hw⟩ rfl K.u_S_api_Key rfl 0 rfl rfl | exact r_load ⟨h.1, hw⟩ rfl K.u_S_api_Key rfl 1 rfl rfl | exact r_load ⟨h.1, hw⟩ rfl K.u_S_api_Key rfl 2 rfl rfl | exact r_load ⟨h.1, hw⟩ rfl K.u_S_api_Key rfl 3 rfl rfl | exact r_load ⟨h.1, hw⟩ rfl K.u_S_api_Key rfl 4 rfl rfl | exact r_load ⟨h.1, hw⟩ rfl K.u_S_api_Key rfl 5 rfl rfl | exact r_load1 ⟨h.1, hw⟩ rfl K.u_S_api_Key rfl (by assumption)) rfl ?_
        clear hD h a w; intro a w h hD
        refine d_take0 (listed' := #[true, true, true, false, false, false, false, false]) h hD 2 (by as_aux_lemma => kernel_rfl) rfl (by as_aux_lemma => kernel_rfl) (by as_aux_lemma => kernel_rfl) (by as_aux_lemma => kernel_rfl) (fun _ _ _ _ hh => hh) (fun w h => by first | exact r_move h rfl) rfl ?_
        clear hD h a w; intro a w h hD
        refine d_only (listed' := #[true, true, true, true, false, false, false, false]) 3 [true] (by as_aux_lemma => kernel_rfl) rfl rfl (by as_aux_lemma => kernel_rfl) (by as_aux_lemma => kernel_rfl) ?_
        first
          | (refine op_call h rfl K.go_commit_key (commit_key s _ _ _ _ 0 rfl (by first | omega | assumption | (dsimp only; omega)) h.2) rfl ?_)
          | (refine op_call h rfl K.go_commit_key (commit_key s _ _ _ _ 1 rfl (by first | omega | assumption | (dsimp only; omega)) h.2) rfl ?_)
          | (refine op_call h rfl K.go_commit_key (commit_key s _ _ _ _ 2 rfl (by first | omega | assumption | (dsimp only; omega)) h.2) rfl ?_)
          | (refine op_call h rfl K.go_commit_key (commit_key s _ _ _ _ 3 rfl (by first | omega | assumption | (dsimp only; omega)) h.2) rfl ?_)
          | (refine op_call h rfl K.go_commit_key (commit_key s _ _ _ _ 4 rfl (by first | omega | assumption | (dsimp only; omega)) h.2) rfl ?_)
          | (refine op_call h rfl K.go_commit_key (commit_key s _ _ _ _ 5 rfl (by first | omega | assumption | (dsimp only; omega)) h.2) rfl ?_)
        clear hD h a w; intro x a w hx h
        (try simp only [List.set_cons_zero, List.set_cons_succ] at h)
        refine d_pay (Paid.cons (by first | exact h.2 | exact h.2.drop 1 | exact h.2.drop 2 | exact h.2.drop 3 | exact h.2.drop 4 | exact h.2.drop 5 | exact h.2.drop 6 | exact h.2.drop 7) (Paid.nil)) (fun hD => ?_)
        refine d_only (listed' := #[true, true, true, true, true, false, false, false]) 4 [true] (by as_aux_lemma => kernel_rfl) rfl rfl (by as_aux_lemma => kernel_rfl) (by as_aux_lemma => kernel_rfl) ?_
        refine op_build1 h K.u_S_api_Key K.sz_api_Key K.z_api_Key rfl rfl rfl (by first | exact Row.len _ | rfl | assumption | (simp; done) | (simp; omega) | omega) rfl ?_
        clear hD h a w; intro b24 a w h
        refine d_pay (Paid.cons (by first | exact h.2 | exact h.2.drop 1 | exact h.2.drop 2 | exact h.2.drop 3 | exact h.2.drop 4 | exact h.2.drop 5 | exact h.2.drop 6 | exact h.2.drop 7) (Paid.nil)) (fun hD => ?_)
        refine d_only (listed' := #[true, true, true, true, true, true, false, false]) 5 [false] (by as_aux_lemma => kernel_rfl) rfl rfl (by as_aux_lemma => kernel_rfl) (by as_aux_lemma => kernel_rfl) ?_
        first
          | (refine op_appendR1 h rfl rfl K.u_S_api_Key K.sz_api_Key K.z_api_Key rfl rfl 0 rfl (by first | omega | (simp only [List.length_cons, List.length_nil]; omega) | (simp; done) | (simp; omega)) rfl ?_)
          | (refine op_appendR1 h rfl rfl K.u_S_api_Key K.sz_api_Key K.z_api_Key rfl rfl 1 rfl (by first | omega | (simp only [List.length_cons, List.length_nil]; omega) | (simp; done) | (simp; omega)) rfl ?_)
          | (refine op_appendR1 h rfl rfl K.u_S_api_Key K.sz_api_Key K.z_api_Key rfl rfl 2 rfl (by first | omega | (simp only [List.length_cons, List.length_nil]; omega) | (simp; done) | (simp; omega)) rfl ?_)
          | (refine op_appendR1 h rfl rfl K.u_S_api_Key K.sz_api_Key K.z_api_Key rfl rfl 3 rfl (by first | omega | (simp only [List.length_cons, List.length_nil]; omega) | (simp; done) | (simp; omega)) rfl ?_)
          | (refine op_appendR1 h rfl rfl K.u_S_api_Key K.sz_api_Key K.z_api_Key rfl rfl 4 rfl (by first | omega | (simp only [List.length_cons, List.length_nil]; omega) | (simp; done) | (simp; omega)) rfl ?_)
          | (refine op_appendR1 h rfl rfl K.u_S_api_Key K.sz_api_Key K.z_api_Key rfl rfl 5 rfl (by first | omega | (simp only [List.length_cons, List.length_nil]; omega) | (simp; done) | (simp; omega)) rfl ?_)
        clear hD h a w; intro v25 a w h
        (try simp only [List.set_cons_zero, List.set_cons_succ] at h)
        refine d_pay (Paid.nil) (fun hD => ?_)
        refine d_take0 (listed' := #[true, true, true, true, true, true, true, false]) h hD 6 (by as_aux_lemma => kernel_rfl) rfl (by as_aux_lemma => kernel_rfl) (by as_aux_lemma => kernel_rfl) (by as_aux_lemma => kernel_rfl) (fun _ _ _ _ hh => hh) (fun w h => by first | exact r_fieldAddr h 32 rfl K.u_api_Commit rfl K.sz_S_api_Key rfl rfl) rfl ?_
        clear hD h a w; intro a w h hD
        refine d_only (listed' := #[true, true, true, true, true, true, true, true]) 7 [] (by as_aux_lemma => kernel_rfl) rfl rfl (by as_aux_lemma => kernel_rfl) (by as_aux_lemma => kernel_rfl) ?_
        first
          | (refine op_storeN h rfl rfl K.sz_S_api_Key (by first | rfl | assumption | exact Views.oneCell (Views.own 0 rfl) h.2 | exact Views.oneCell (Views.own 1 rfl) h.2 | exact Views.oneCell (Views.own 2 rfl) h.2 | exact Views.oneCell (Views.own 3 rfl) h.2 | exact Views.oneCell (Views.own 4 rfl) h.2 | exact Views.oneCell (Views.own 5 rfl) h.2 | exact Views.oneCell (by assumption) h.2) 0 rfl rfl ?_)
          | (refine op_storeN h rfl rfl K.sz_S_api_Key (by first | rfl | assumption | exact Views.oneCell (Views.own 0 rfl) h.2 | exact Views.oneCell (Views.own 1 rfl) h.2 | exact Views.oneCell (Views.own 2 rfl) h.2 | exact Views.oneCell (Views.own 3 rfl) h.2 | exact Views.oneCell (Views.own 4 rfl) h.2 | exact Views.oneCell (Views.own 5 rfl) h.2 | exact Views.oneCell (by assumption) h.2) 1 rfl rfl ?_)
          | (refine op_storeN h rfl rfl K.sz_S_api_Key (by first | rfl | assumption | exact Views.oneCell (Views.own 0 rfl) h.2 | exact Views.oneCell (Views.own 1 rfl) h.2 | exact Views.oneCell (Views.own 2 rfl) h.2 | exact Views.oneCell (Views.own 3 rfl) h.2 | exact Views.oneCell (Views.own 4 rfl) h.2 | exact Views.oneCell (Views.own 5 rfl) h.2 | exact Views.oneCell (by assumption) h.2) 2 rfl rfl ?_)
          | (refine op_storeN h rfl rfl K.sz_S_api_Key (by first | rfl | assumption | exact Views.oneCell (Views.own 0 rfl) h.2 | exact Views.oneCell (Views.own 1 rfl) h.2 | exact Views.oneCell (Views.own 2 rfl) h.2 | exact Views.oneCell (Views.own 3 rfl) h.2 | exact Views.oneCell (Views.own 4 rfl) h.2 | exact Views.oneCell (Views.own 5 rfl) h.2 | exact Views.oneCell (by assumption) h.2) 3 rfl rfl ?_)
          | (refine op_storeN h rfl rfl K.sz_S_api_Key (by first | rfl | assumption | exact Views.oneCell (Views.own 0 rfl) h.2 | exact Views.oneCell (Views.own 1 rfl) h.2 | exact Views.oneCell (Views.own 2 rfl) h.2 | exact Views.oneCell (Views.own 3 rfl) h.2 | exact Views.oneCell (Views.own 4 rfl) h.2 | exact Views.oneCell (Views.own 5 rfl) h.2 | exact Views.oneCell (by assumption) h.2) 4 rfl rfl ?_)
          | (refine op_storeN h rfl rfl K.sz_S_api_Key (by first | rfl | assumption | exact Views.oneCell (Views.own 0 rfl) h.2 | exact Views.oneCell (Views.own 1 rfl) h.2 | exact Views.oneCell (Views.own 2 rfl) h.2 | exact Views.oneCell (Views.own 3 rfl) h.2 | exact Views.oneCell (Views.own 4 rfl) h.2 | exact Views.oneCell (Views.own 5 rfl) h.2 | exact Views.oneCell (by assumption) h.2) 5 rfl rfl ?_)
          | (refine op_storeN h rfl rfl K.sz_S_api_Key (by first | rfl | assumption | exact Views.oneCell (Views.own 0 rfl) h.2 | exact Views.oneCell (Views.own 1 rfl) h.2 | exact Views.oneCell (Views.own 2 rfl) h.2 | exact Views.oneCell (Views.own 3 rfl) h.2 | exact Views.oneCell (Views.own 4 rfl) h.2 | exact Views.oneCell (Views.own 5 rfl) h.2 | exact Views.oneCell (by assumption) h.2) 6 rfl rfl ?_)
          | (refine op_storeC (o := 32) h rfl rfl K.sz_S_api_Key (by first | rfl | assumption | exact Views.oneCell (Views.own 0 rfl) h.2 | exact Views.oneCell (Views.own 1 rfl) h.2 | exact Views.oneCell (Views.own 2 rfl) h.2 | exact Views.oneCell (Views.own 3 rfl) h.2 | exact Views.oneCell (Views.own 4 rfl) h.2 | exact Views.oneCell (Views.own 5 rfl) h.2 | exact Views.oneCell (by assumption) h.2) 0 rfl ?_)
          | (refine op_storeC (o := 32) h rfl rfl K.sz_S_api_Key (by first | rfl | assumption | exact Views.oneCell (Views.own 0 rfl) h.2 | exact Views.oneCell (Views.own 1 rfl) h.2 | exact Views.oneCell (Views.own 2 rfl) h.2 | exact Views.oneCell (Views.own 3 rfl) h.2 | exact Views.oneCell (Views.own 4 rfl) h.2 | exact Views.oneCell (Views.own 5 rfl) h.2 | exact Views.oneCell (by assumption) h.2) 1 rfl ?_)
          | (refine op_storeC (o := 32) h rfl rfl K.sz_S_api_Key (by first | rfl | assumption | exact Views.oneCell (Views.own 0 rfl) h.2 | exact Views.oneCell (Views.own 1 rfl) h.2 | exact Views.oneCell (Views.own 2 rfl) h.2 | exact Views.oneCell (Views.own 3 rfl) h.2 | exact Views.oneCell (Views.own 4 rfl) h.2 | exact Views.oneCell (Views.own 5 rfl) h.2 | exact Views.oneCell (by assumption) h.2) 2 rfl ?_)
          | (refine op_storeC (o := 32) h rfl rfl K.sz_S_api_Key (by first | rfl | assumption | exact Views.oneCell (Views.own 0 rfl) h.2 | exact Views.oneCell (Views.own 1 rfl) h.2 | exact Views.oneCell (Views.own 2 rfl) h.2 | exact Views.oneCell (Views.own 3 rfl) h.2 | exact Views.oneCell (Views.own 4 rfl) h.2 | exact Views.oneCell (Views.own 5 rfl) h.2 | exact Views.oneCell (by assumption) h.2) 3 rfl ?_)
          | (refine op_storeC (o := 32) h rfl rfl K.sz_S_api_Key (by first | rfl | assumption | exact Views.oneCell (Views.own 0 rfl) h.2 | exact Views.oneCell (Views.own 1 rfl) h.2 | exact Views.oneCell (Views.own 2 rfl) h.2 | exact Views.oneCell (Views.own 3 rfl) h.2 | exact Views.oneCell (Views.own 4 rfl) h.2 | exact Views.oneCell (Views.own 5 rfl) h.2 | exact Views.oneCell (by assumption) h.2) 4 rfl ?_)
          | (refine op_storeC (o := 32) h rfl rfl K.sz_S_api_Key (by first | rfl | assumption | exact Views.oneCell (Views.own 0 rfl) h.2 | exact Views.oneCell (Views.own 1 rfl) h.2 | exact Views.oneCell (Views.own 2 rfl) h.2 | exact Views.oneCell (Views.own 3 rfl) h.2 | exact Views.oneCell (Views.own 4 rfl) h.2 | exact Views.oneCell (Views.own 5 rfl) h.2 | exact Views.oneCell (by assumption) h.2) 5 rfl ?_)
          | (refine op_storeC (o := 32) h rfl rfl K.sz_S_api_Key (by first | rfl | assumption | exact Views.oneCell (Views.own 0 rfl) h.2 | exact Views.oneCell (Views.own 1 rfl) h.2 | exact Views.oneCell (Views.own 2 rfl) h.2 | exact Views.oneCell (Views.own 3 rfl) h.2 | exact Views.oneCell (Views.own 4 rfl) h.2 | exact Views.oneCell (Views.own 5 rfl) h.2 | exact Views.oneCell (by assumption) h.2) 6 rfl ?_)
        clear hD h a w; intro a w h
        (try simp only [List.set_cons_zero, List.set_cons_succ] at h)
        refine d_pay (Paid.nil) (fun hD => ?_)
        refine d_done (by kernel_rfl) ?_
        clear hD
        refine b_normal ?_
        refine c_then ?_
        refine c_region ?_
        refine wv h (r_bin h rfl rfl (B.add_i64 (by omega) (by omega))) rfl ?_
        clear h a w; intro a w h
        refine wv h (r_move h rfl) rfl ?_
        clear h a w; intro a w h
        refine wnil ?_
        exact ⟨(i + 1, v25, ks ++ [(keyN st).1], (keyN st).2), h.keep [2, 3, 4, 5, 17, 18], ⟨by show i + 1 ≤ m; omega, by show (keyN st).2.2.length ≤ _; omega, by show (ks ++ [_]).length = i + 1; simp [hx3], by rw [hx4]; simp, hx5⟩, by show m - (i + 1) < m - i; omega⟩
      ·
        obtain rfl : i = m := by omega
        rw [Nat.sub_self, keysN] at hx4 hx5
        simp only [List.append_nil] at hx4
        rw [hx4, hx5] at hdB hdC
        refine c_exit ?_
        refine e_then ?_
        refine e_then ?_
        refine e_here ?_
        refine c_then ?_
        refine c_seq (c_region ?_)
        refine wv h (r_move h rfl) rfl ?_
        clear h a w; intro a w h
        first
          | (refine wl rfl (op_call h rfl K.go_digit_Eye_Text (eye_Text s _ _ _ _ _ 0 rfl (by omega) (by omega) (by first | omega | assumption | (dsimp only; omega)) h.2) rfl ?_))
          | (refine wl rfl (op_call h rfl K.go_digit_Eye_Text (eye_Text s _ _ _ _ _ 1 rfl (by omega) (by omega) (by first | omega | assumption | (dsimp only; omega)) h.2) rfl ?_))
          | (refine wl rfl (op_call h rfl K.go_digit_Eye_Text (eye_Text s _ _ _ _ _ 2 rfl (by omega) (by omega) (by first | omega | assumption | (dsimp only; omega)) h.2) rfl ?_))
          | (refine wl rfl (op_call h rfl K.go_digit_Eye_Text (eye_Text s _ _ _ _ _ 3 rfl (by omega) (by omega) (by first | omega | assumption | (dsimp only; omega)) h.2) rfl ?_))
          | (refine wl rfl (op_call h rfl K.go_digit_Eye_Text (eye_Text s _ _ _ _ _ 4 rfl (by omega) (by omega) (by first | omega | assumption | (dsimp only; omega)) h.2) rfl ?_))
          | (refine wl rfl (op_call h rfl K.go_digit_Eye_Text (eye_Text s _ _ _ _ _ 5 rfl (by omega) (by omega) (by first | omega | assumption | (dsimp only; omega)) h.2) rfl ?_))
        clear h a w; intro x a w hx h
        (try simp only [List.set_cons_zero, List.set_cons_succ] at h)
        refine wv h (r_fieldAddr h 33 rfl K.u_api_Commit rfl K.sz_string rfl rfl) rfl ?_
        clear h a w; intro a w h
        first
          | (refine wl rfl (op_storeN h rfl rfl K.sz_string (by first | rfl | assumption | exact Views.oneCell (Views.own 0 rfl) h.2 | exact Views.oneCell (Views.own 1 rfl) h.2 | exact Views.oneCell (Views.own 2 rfl) h.2 | exact Views.oneCell (Views.own 3 rfl) h.2 | exact Views.oneCell (Views.own 4 rfl) h.2 | exact Views.oneCell (Views.own 5 rfl) h.2 | exact Views.oneCell (by assumption) h.2) 0 rfl rfl ?_))
          | (refine wl rfl (op_storeN h rfl rfl K.sz_string (by first | rfl | assumption | exact Views.oneCell (Views.own 0 rfl) h.2 | exact Views.oneCell (Views.own 1 rfl) h.2 | exact Views.oneCell (Views.own 2 rfl) h.2 | exact Views.oneCell (Views.own 3 rfl) h.2 | exact Views.oneCell (Views.own 4 rfl) h.2 | exact Views.oneCell (Views.own 5 rfl) h.2 | exact Views.oneCell (by assumption) h.2) 1 rfl rfl ?_))
          | (refine wl rfl (op_storeN h rfl rfl K.sz_string (by first | rfl | assumption | exact Views.oneCell (Views.own 0 rfl) h.2 | exact Views.oneCell (Views.own 1 rfl) h.2 | exact Views.oneCell (Views.own 2 rfl) h.2 | exact Views.oneCell (Views.own 3 rfl) h.2 | exact Views.oneCell (Views.own 4 rfl) h.2 | exact Views.oneCell (Views.own 5 rfl) h.2 | exact Views.oneCell (by assumption) h.2) 2 rfl rfl ?_))
          | (refine wl rfl (op_storeN h rfl rfl K.sz_string (by first | rfl | assumption | exact Views.oneCell (Views.own 0 rfl) h.2 | exact Views.oneCell (Views.own 1 rfl) h.2 | exact Views.oneCell (Views.own 2 rfl) h.2 | exact Views.oneCell (Views.own 3 rfl) h.2 | exact Views.oneCell (Views.own 4 rfl) h.2 | exact Views.oneCell (Views.own 5 rfl) h.2 | exact Views.oneCell (by assumption) h.2) 3 rfl rfl ?_))
          | (refine wl rfl (op_storeN h rfl rfl K.sz_string (by first | rfl | assumption | exact Views.oneCell (Views.own 0 rfl) h.2 | exact Views.oneCell (Views.own 1 rfl) h.2 | exact Views.oneCell (Views.own 2 rfl) h.2 | exact Views.oneCell (Views.own 3 rfl) h.2 | exact Views.oneCell (Views.own 4 rfl) h.2 | exact Views.oneCell (Views.own 5 rfl) h.2 | exact Views.oneCell (by assumption) h.2) 4 rfl rfl ?_))
          | (refine wl rfl (op_storeN h rfl rfl K.sz_string (by first | rfl | assumption | exact Views.oneCell (Views.own 0 rfl) h.2 | exact Views.oneCell (Views.own 1 rfl) h.2 | exact Views.oneCell (Views.own 2 rfl) h.2 | exact Views.oneCell (Views.own 3 rfl) h.2 | exact Views.oneCell (Views.own 4 rfl) h.2 | exact Views.oneCell (Views.own 5 rfl) h.2 | exact Views.oneCell (by assumption) h.2) 5 rfl rfl ?_))
          | (refine wl rfl (op_storeN h rfl rfl K.sz_string (by first | rfl | assumption | exact Views.oneCell (Views.own 0 rfl) h.2 | exact Views.oneCell (Views.own 1 rfl) h.2 | exact Views.oneCell (Views.own 2 rfl) h.2 | exact Views.oneCell (Views.own 3 rfl) h.2 | exact Views.oneCell (Views.own 4 rfl) h.2 | exact Views.oneCell (Views.own 5 rfl) h.2 | exact Views.oneCell (by assumption) h.2) 6 rfl rfl ?_))
          | (refine wl rfl (op_storeC (o := 33) h rfl rfl K.sz_string (by first | rfl | assumption | exact Views.oneCell (Views.own 0 rfl) h.2 | exact Views.oneCell (Views.own 1 rfl) h.2 | exact Views.oneCell (Views.own 2 rfl) h.2 | exact Views.oneCell (Views.own 3 rfl) h.2 | exact Views.oneCell (Views.own 4 rfl) h.2 | exact Views.oneCell (Views.own 5 rfl) h.2 | exact Views.oneCell (by assumption) h.2) 0 rfl ?_))
          | (refine wl rfl (op_storeC (o := 33) h rfl rfl K.sz_string (by first | rfl | assumption | exact Views.oneCell (Views.own 0 rfl) h.2 | exact Views.oneCell (Views.own 1 rfl) h.2 | exact Views.oneCell (Views.own 2 rfl) h.2 | exact Views.oneCell (Views.own 3 rfl) h.2 | exact Views.oneCell (Views.own 4 rfl) h.2 | exact Views.oneCell (Views.own 5 rfl) h.2 | exact Views.oneCell (by assumption) h.2) 1 rfl ?_))
          | (refine wl rfl (op_storeC (o := 33) h rfl rfl K.sz_string (by first | rfl | assumption | exact Views.oneCell (Views.own 0 rfl) h.2 | exact Views.oneCell (Views.own 1 rfl) h.2 | exact Views.oneCell (Views.own 2 rfl) h.2 | exact Views.oneCell (Views.own 3 rfl) h.2 | exact Views.oneCell (Views.own 4 rfl) h.2 | exact Views.oneCell (Views.own 5 rfl) h.2 | exact Views.oneCell (by assumption) h.2) 2 rfl ?_))
          | (refine wl rfl (op_storeC (o := 33) h rfl rfl K.sz_string (by first | rfl | assumption | exact Views.oneCell (Views.own 0 rfl) h.2 | exact Views.oneCell (Views.own 1 rfl) h.2 | exact Views.oneCell (Views.own 2 rfl) h.2 | exact Views.oneCell (Views.own 3 rfl) h.2 | exact Views.oneCell (Views.own 4 rfl) h.2 | exact Views.oneCell (Views.own 5 rfl) h.2 | exact Views.oneCell (by assumption) h.2) 3 rfl ?_))
          | (refine wl rfl (op_storeC (o := 33) h rfl rfl K.sz_string (by first | rfl | assumption | exact Views.oneCell (Views.own 0 rfl) h.2 | exact Views.oneCell (Views.own 1 rfl) h.2 | exact Views.oneCell (Views.own 2 rfl) h.2 | exact Views.oneCell (Views.own 3 rfl) h.2 | exact Views.oneCell (Views.own 4 rfl) h.2 | exact Views.oneCell (Views.own 5 rfl) h.2 | exact Views.oneCell (by assumption) h.2) 4 rfl ?_))
          | (refine wl rfl (op_storeC (o := 33) h rfl rfl K.sz_string (by first | rfl | assumption | exact Views.oneCell (Views.own 0 rfl) h.2 | exact Views.oneCell (Views.own 1 rfl) h.2 | exact Views.oneCell (Views.own 2 rfl) h.2 | exact Views.oneCell (Views.own 3 rfl) h.2 | exact Views.oneCell (Views.own 4 rfl) h.2 | exact Views.oneCell (Views.own 5 rfl) h.2 | exact Views.oneCell (by assumption) h.2) 5 rfl ?_))
          | (refine wl rfl (op_storeC (o := 33) h rfl rfl K.sz_string (by first | rfl | assumption | exact Views.oneCell (Views.own 0 rfl) h.2 | exact Views.oneCell (Views.own 1 rfl) h.2 | exact Views.oneCell (Views.own 2 rfl) h.2 | exact Views.oneCell (Views.own 3 rfl) h.2 | exact Views.oneCell (Views.own 4 rfl) h.2 | exact Views.oneCell (Views.own 5 rfl) h.2 | exact Views.oneCell (by assumption) h.2) 6 rfl ?_))
        clear h a w; intro a w h
        (try simp only [List.set_cons_zero, List.set_cons_succ] at h)
        refine wnil (c_then ?_)
        refine c_seq ?_
        refine c_seq (c_region ?_)
        refine wv h (r_move h rfl) rfl ?_
        clear h a w; intro a w h
        first
          | (refine wl rfl (op_call h rfl K.go_digit_Eye_End (eye_EndI s _ _ _ _ 0 rfl h.2) rfl ?_))
          | (refine wl rfl (op_call h rfl K.go_digit_Eye_End (eye_EndI s _ _ _ _ 1 rfl h.2) rfl ?_))
          | (refine wl rfl (op_call h rfl K.go_digit_Eye_End (eye_EndI s _ _ _ _ 2 rfl h.2) rfl ?_))
          | (refine wl rfl (op_call h rfl K.go_digit_Eye_End (eye_EndI s _ _ _ _ 3 rfl h.2) rfl ?_))
          | (refine wl rfl (op_call h rfl K.go_digit_Eye_End (eye_EndI s _ _ _ _ 4 rfl h.2) rfl ?_))
          | (refine wl rfl (op_call h rfl K.go_digit_Eye_End (eye_EndI s _ _ _ _ 5 rfl h.2) rfl ?_))
        clear h a w; intro x a w hx h
        (try simp only [List.set_cons_zero, List.set_cons_succ] at h)
        refine wv h (r_bin h rfl rfl (B.neq_int)) rfl ?_
        clear h a w; intro a w h
        refine wv h (r_move h rfl) rfl ?_
        clear h a w; intro a w h
        refine wvG h (by first | exact .t rfl | exact .f rfl | exact .gt rfl | exact .gf rfl) (fun hg => by (try simp only [↓gval_on hg, ↓gval_and hg] at h); (have hg2 := hg; (try simp only [Bool.and_eq_true, Bool.or_eq_true, Bool.not_eq_true', decide_eq_true_eq, decide_eq_false_iff_not] at hg2)); first | exact r_ldA h rfl K.u_api_Commit rfl K.sz_api_Commit 0 rfl (by first | exact Row.len _ | rfl | assumption | (simp; done) | (simp; omega) | omega) | exact r_ldA h rfl K.u_api_Commit rfl K.sz_api_Commit 1 rfl (by first | exact Row.len _ | rfl | assumption | (simp; done) | (simp; omega) | omega) | exact r_ldA h rfl K.u_api_Commit rfl K.sz_api_Commit 2 rfl (by first | exact Row.len _ | rfl | assumption | (simp; done) | (simp; omega) | omega) | exact r_ldA h rfl K.u_api_Commit rfl K.sz_api_Commit 3 rfl (by first | exact Row.len _ | rfl | assumption | (simp; done) | (simp; omega) | omega) | exact r_ldA h rfl K.u_api_Commit rfl K.sz_api_Commit 4 rfl (by first | exact Row.len _ | rfl | assumption | (simp; done) | (simp; omega) | omega) | exact r_ldA h rfl K.u_api_Commit rfl K.sz_api_Commit 5 rfl (by first | exact Row.len _ | rfl | assumption | (simp; done) | (simp; omega) | omega) | exact r_loadCA h rfl K.u_api_Commit rfl K.sz_api_Commit (by assumption) (by first | rfl | assumption | (simp; done) | (simp; omega) | omega)) rfl ?_
        clear h a w; intro a w h
        refine wcG h (by first | exact .t rfl | exact .f rfl | exact .gt rfl | exact .gf rfl) K.go_commit_Right (fun hg => by (try simp only [↓gval_on hg, ↓gval_and hg]); (have hg2 := hg; (try simp only [Bool.and_eq_true, Bool.or_eq_true, Bool.not_eq_true', decide_eq_true_eq, decide_eq_false_iff_not] at hg2)); exact ⟨_, rfl, commit_Right s _ ⟨ch, ks, (eyeText st 30).1⟩ v _ (Views.own 1 rfl) h.2⟩) rfl ?_
        clear h a w; intro a w h
        refine wvG h (by first | exact .t rfl | exact .f rfl | exact .gt rfl | exact .gf rfl) (fun hg => by (try simp only [↓gval_on hg, ↓gval_and hg] at h); (have hg2 := hg; (try simp only [Bool.and_eq_true, Bool.or_eq_true, Bool.not_eq_true', decide_eq_true_eq, decide_eq_false_iff_not] at hg2)); first | exact r_not h rfl) rfl ?_
        clear h a w; intro a w h
        first
          | (refine wv h (r_pickA h rfl rfl rfl) rfl ?_)
          | (refine wv h (r_pickO h rfl rfl rfl) rfl ?_)
          | (refine wv h (r_pick_true h rfl rfl) rfl ?_)
          | (refine wv h (r_pick_false h rfl rfl) rfl ?_)
          | (refine wv h (r_pick h rfl rfl rfl) rfl ?_)
        clear h a w; intro a w h
        refine wnil (c_then ?_)
        first
          | refine c_condD h rfl (fun ht3 => ?_) (fun ht3 => ?_)
          | refine c_condP h rfl (by first | (simp only [Bool.and_eq_true, Bool.or_eq_true, Bool.not_eq_true', decide_eq_true_eq, decide_eq_false_iff_not, ne_eq, Bool.not_eq_eq_eq_not, Bool.not_true, beq_iff_eq, bne_iff_ne]; exact Iff.rfl) | exact Iff.rfl) (fun ht3 => ?_) (fun ht3 => ?_)
        ·
          have e : okD p = false := by
            rw [hdB]
            rcases ht3 with q | q
            · simp [q]
            · simp [q]
          rw [e] at hdC
          rw [hdC, e]
          as_aux_lemma =>
            refine c_seq (c_region ?_)
            refine wv h (r_build (cells := ⟨cmC (BA.zero 32) (.slice none 0 0) (sv [])⟩) h K.u_api_Commit K.z_api_Commit K.pl_api_Commit rfl (by kernel_rfl)) rfl ?_
            clear h a w; intro a w h
            refine wl rfl (op_stA h rfl rfl K.sz_api_Commit (cmC_len _ _ _) (cmC_one rfl rfl) 3 rfl rfl ?_)
            clear h a w; intro a w h
            refine wv h (r_assign h rfl) rfl ?_
            clear h a w; intro a w h
            refine wnil (c_then ?_)
            refine c_ret ?_
            exact retct h rfl rfl rfl K.u_api_Commit rfl K.sz_api_Commit 3 rfl (by show (cmC _ _ _).length = 34; simp) ⟨.slice none 0 0, rfl, ((h.drop 4).addNilM (size := 32) (cells := cellsA (n := 32))).2, trivial⟩
        ·
          have e : okD p = true := by
            have q := ht3
            simp only [not_or, Decidable.not_not, Bool.not_eq_false] at q
            rw [hdB]; simp [q.1, q.2]
          rw [e] at hdC
          rw [hdC, e]
          refine c_skip ?_
          refine c_then ?_
          refine c_seq (c_region ?_)
          first
            | (refine wv h (r_ldA h rfl K.u_api_Commit rfl K.sz_api_Commit 0 rfl (by first | exact Row.len _ | rfl | assumption | (simp; done) | (simp; omega) | omega)) rfl ?_)
            | (refine wv h (r_ldA h rfl K.u_api_Commit rfl K.sz_api_Commit 1 rfl (by first | exact Row.len _ | rfl | assumption | (simp; done) | (simp; omega) | omega)) rfl ?_)
            | (refine wv h (r_ldA h rfl K.u_api_Commit rfl K.sz_api_Commit 2 rfl (by first | exact Row.len _ | rfl | assumption | (simp; done) | (simp; omega) | omega)) rfl ?_)
            | (refine wv h (r_ldA h rfl K.u_api_Commit rfl K.sz_api_Commit 3 rfl (by first | exact Row.len _ | rfl | assumption | (simp; done) | (simp; omega) | omega)) rfl ?_)
            | (refine wv h (r_ldA h rfl K.u_api_Commit rfl K.sz_api_Commit 4 rfl (by first | exact Row.len _ | rfl | assumption | (simp; done) | (simp; omega) | omega)) rfl ?_)
            | (refine wv h (r_ldA h rfl K.u_api_Commit rfl K.sz_api_Commit 5 rfl (by first | exact Row.len _ | rfl | assumption | (simp; done) | (simp; omega) | omega)) rfl ?_)
            | (refine wv h (r_loadCA h rfl K.u_api_Commit rfl K.sz_api_Commit (by assumption) (by first | rfl | assumption | (simp; done) | (simp; omega) | omega)) rfl ?_)
          clear h a w; intro a w h
          refine wl rfl (op_stA h rfl rfl K.sz_api_Commit (cmC_len _ _ _) (cmC_one (Views.oneCell (Views.own 1 rfl) h.2) rfl) 3 rfl rfl ?_)
          clear h a w; intro a w h
          refine wv h (r_assign h rfl) rfl ?_
          clear h a w; intro a w h
          refine wnil (c_then ?_)
          refine c_ret ?_
          exact retct h rfl rfl rfl K.u_api_Commit rfl K.sz_api_Commit 3 rfl (by show (cmC _ _ _).length = 34; simp) ⟨v, rfl, ((h.2.rid 0).rid 1).rid 1, trivial⟩

theorem cm_eq {c d : Cm} : c = d ↔ c.chart.val = d.chart.val ∧ c.note = d.note ∧ c.parents = d.parents := by
  constructor
  · rintro rfl; exact ⟨rfl, rfl, rfl⟩
  · rintro ⟨h1, h2, h3⟩
    cases c; cases d
    simp only at h1 h2 h3
    rw [BA.ext' h1, h2, h3]
theorem take_eq {l m : List K32} {i : Nat} (h : l.take i = m.take i) (h1 : i < l.length) (h2 : i < m.length) (e : (l.getD i default).val = (m.getD i default).val) : l.take (i + 1) = m.take (i + 1) := by
  rw [List.take_add_one, List.take_add_one, h]
  rw [List.getD_eq_getElem?_getD, List.getD_eq_getElem?_getD, List.getElem?_eq_getElem h1, List.getElem?_eq_getElem h2] at e
  have e2 : l[i] = m[i] := BA.ext' (by simpa using e)
  rw [List.getElem?_eq_getElem h1, List.getElem?_eq_getElem h2, e2]
theorem get_ne {l m : List K32} {i : Nat} (e : (l.getD i default).val ≠ (m.getD i default).val) : l ≠ m := fun h => e (by rw [h])

theorem commit_Equal (s w : World) (c d : Cm) (pv qw : Value) (F : List HItem) (hp : Views F 32 pv c.parents.length (c.parents.flatMap cellsA)) (hq : Views F 32 qw d.parents.length (d.parents.flatMap cellsA)) (hs : Sat s w F) :
    Calls P n_commit_Equal #[.agg ⟨cmC c.chart pv (sv c.note)⟩, .agg ⟨cmC d.chart qw (sv d.note)⟩] w (Ret s (fun _ : Unit => .bool (decide (c = d))) (fun _ => F) (fun _ => True)) := by
  have hln := Views.len_le hp hs
  refine enter K.fn_commit_Equal rfl K.nt_commit_Equal rfl hs ?_
  clear hs w; intro a w h
  refine c_seq (c_region ?_)
  refine wl rfl (op_box h rfl rfl ?_)
  clear h a w; intro b2 a w h
  try simp only [Value.cells] at h
  refine wl rfl (op_box h rfl rfl ?_)
  clear h a w; intro b3 a w h
  try simp only [Value.cells] at h
  refine wv h (r_assign h rfl) rfl ?_
  clear h a w; intro a w h
  refine wnil (c_then ?_)
  refine c_seq ?_
  refine c_seq (c_region ?_)
  refine wv h (r_fieldAddr0 h rfl K.u_api_Commit rfl K.sz_api_Key rfl rfl) rfl ?_
  clear h a w; intro a w h
  first
    | (refine wv h (r_ldF8 h rfl K.u_api_Key rfl K.sz_api_Key 0 rfl rfl (by first | rfl | assumption | (simp; done) | (simp; omega) | omega)) rfl ?_)
    | (refine wv h (r_ldF8 h rfl K.u_api_Key rfl K.sz_api_Key 1 rfl rfl (by first | rfl | assumption | (simp; done) | (simp; omega) | omega)) rfl ?_)
    | (refine wv h (r_ldF8 h rfl K.u_api_Key rfl K.sz_api_Key 2 rfl rfl (by first | rfl | assumption | (simp; done) | (simp; omega) | omega)) rfl ?_)
    | (refine wv h (r_ldF8 h rfl K.u_api_Key rfl K.sz_api_Key 3 rfl rfl (by first | rfl | assumption | (simp; done) | (simp; omega) | omega)) rfl ?_)
    | (refine wv h (r_ldF8 h rfl K.u_api_Key rfl K.sz_api_Key 4 rfl rfl (by first | rfl | assumption | (simp; done) | (simp; omega) | omega)) rfl ?_)
    | (refine wv h (r_ldF8 h rfl K.u_api_Key rfl K.sz_api_Key 5 rfl rfl (by first | rfl | assumption | (simp; done) | (simp; omega) | omega)) rfl ?_)
    | (refine wv h (r_ldH8 h rfl K.u_api_Key rfl K.sz_api_Key 0 rfl (by first | rfl | assumption | (simp; done) | (simp; omega) | omega)) rfl ?_)
    | (refine wv h (r_ldH8 h rfl K.u_api_Key rfl K.sz_api_Key 1 rfl (by first | rfl | assumption | (simp; done) | (simp; omega) | omega)) rfl ?_)
    | (refine wv h (r_ldH8 h rfl K.u_api_Key rfl K.sz_api_Key 2 rfl (by first | rfl | assumption | (simp; done) | (simp; omega) | omega)) rfl ?_)
    | (refine wv h (r_ldH8 h rfl K.u_api_Key rfl K.sz_api_Key 3 rfl (by first | rfl | assumption | (simp; done) | (simp; omega) | omega)) rfl ?_)
    | (refine wv h (r_ldH8 h rfl K.u_api_Key rfl K.sz_api_Key 4 rfl (by first | rfl | assumption | (simp; done) | (simp; omega) | omega)) rfl ?_)
    | (refine wv h (r_ldH8 h rfl K.u_api_Key rfl K.sz_api_Key 5 rfl (by first | rfl | assumption | (simp; done) | (simp; omega) | omega)) rfl ?_)
    | (refine wv h (r_loadCA h rfl K.u_api_Key rfl K.sz_api_Key (by assumption) (by first | rfl | assumption | (simp; done) | (simp; omega) | omega)) rfl ?_)
  clear h a w; intro a w h
  refine wv h (r_fieldAddr0 h rfl K.u_api_Commit rfl K.sz_api_Key rfl rfl) rfl ?_
  clear h a w; intro a w h
  first
    | (refine wv h (r_ldF8 h rfl K.u_api_Key rfl K.sz_api_Key 0 rfl rfl (by first | rfl | assumption | (simp; done) | (simp; omega) | omega)) rfl ?_)
    | (refine wv h (r_ldF8 h rfl K.u_api_Key rfl K.sz_api_Key 1 rfl rfl (by first | rfl | assumption | (simp; done) | (simp; omega) | omega)) rfl ?_)
    | (refine wv h (r_ldF8 h rfl K.u_api_Key rfl K.sz_api_Key 2 rfl rfl (by first | rfl | assumption | (simp; done) | (simp; omega) | omega)) rfl ?_)
    | (refine wv h (r_ldF8 h rfl K.u_api_Key rfl K.sz_api_Key 3 rfl rfl (by first | rfl | assumption | (simp; done) | (simp; omega) | omega)) rfl ?_)
    | (refine wv h (r_ldF8 h rfl K.u_api_Key rfl K.sz_api_Key 4 rfl rfl (by first | rfl | assumption | (simp; done) | (simp; omega) | omega)) rfl ?_)
    | (refine wv h (r_ldF8 h rfl K.u_api_Key rfl K.sz_api_Key 5 rfl rfl (by first | rfl | assumption | (simp; done) | (simp; omega) | omega)) rfl ?_)
    | (refine wv h (r_ldH8 h rfl K.u_api_Key rfl K.sz_api_Key 0 rfl (by first | rfl | assumption | (simp; done) | (simp; omega) | omega)) rfl ?_)
    | (refine wv h (r_ldH8 h rfl K.u_api_Key rfl K.sz_api_Key 1 rfl (by first | rfl | assumption | (simp; done) | (simp; omega) | omega)) rfl ?_)
    | (refine wv h (r_ldH8 h rfl K.u_api_Key rfl K.sz_api_Key 2 rfl (by first | rfl | assumption | (simp; done) | (simp; omega) | omega)) rfl ?_)
    | (refine wv h (r_ldH8 h rfl K.u_api_Key rfl K.sz_api_Key 3 rfl (by first | rfl | assumption | (simp; done) | (simp; omega) | omega)) rfl ?_)
    | (refine wv h (r_ldH8 h rfl K.u_api_Key rfl K.sz_api_Key 4 rfl (by first | rfl | assumption | (simp; done) | (simp; omega) | omega)) rfl ?_)
    | (refine wv h (r_ldH8 h rfl K.u_api_Key rfl K.sz_api_Key 5 rfl (by first | rfl | assumption | (simp; done) | (simp; omega) | omega)) rfl ?_)
    | (refine wv h (r_loadCA h rfl K.u_api_Key rfl K.sz_api_Key (by assumption) (by first | rfl | assumption | (simp; done) | (simp; omega) | omega)) rfl ?_)
  clear h a w; intro a w h
  refine wv h (r_arrne h rfl rfl K.u_api_Key K.u_uint8 K.sz_uint8 (by kernel_rfl) (by first | rfl | assumption | (simp; done) | (simp; omega) | omega) (by first | rfl | assumption | (simp; done) | (simp; omega) | omega)) rfl ?_
  clear h a w; intro a w h
  refine wv h (r_move h rfl) rfl ?_
  clear h a w; intro a w h
  refine wvG h (by first | exact .t rfl | exact .f rfl | exact .gt rfl | exact .gf rfl) (fun hg => by (try simp only [↓gval_on hg, ↓gval_and hg] at h); (have hg2 := hg; (try simp only [Bool.and_eq_true, Bool.or_eq_true, Bool.not_eq_true', decide_eq_true_eq, decide_eq_false_iff_not] at hg2)); first | exact r_fieldAddr h 33 rfl K.u_api_Commit rfl K.sz_string rfl rfl) rfl ?_
  clear h a w; intro a w h
  refine wvG h (by first | exact .t rfl | exact .f rfl | exact .gt rfl | exact .gf rfl) (fun hg => by (try simp only [↓gval_on hg, ↓gval_and hg] at h); (have hg2 := hg; (try simp only [Bool.and_eq_true, Bool.or_eq_true, Bool.not_eq_true', decide_eq_true_eq, decide_eq_false_iff_not] at hg2)); first | exact r_ldN h rfl K.u_string rfl 0 rfl rfl | exact r_ldN h rfl K.u_string rfl 1 rfl rfl | exact r_ldN h rfl K.u_string rfl 2 rfl rfl | exact r_ldN h rfl K.u_string rfl 3 rfl rfl | exact r_ldN h rfl K.u_string rfl 4 rfl rfl | exact r_ldN h rfl K.u_string rfl 5 rfl rfl | exact r_ldN h rfl K.u_string rfl 6 rfl rfl | exact r_ldC (o := 33) h rfl K.u_string rfl 0 rfl | exact r_ldC (o := 33) h rfl K.u_string rfl 1 rfl | exact r_ldC (o := 33) h rfl K.u_string rfl 2 rfl | exact r_ldC (o := 33) h rfl K.u_string rfl 3 rfl | exact r_ldC (o := 33) h rfl K.u_string rfl 4 rfl | exact r_ldC (o := 33) h rfl K.u_string rfl 5 rfl | exact r_ldC (o := 33) h rfl K.u_string rfl 6 rfl | exact r_load h rfl K.u_string rfl 0 rfl rfl | exact r_load h rfl K.u_string rfl 1 rfl rfl | exact r_load h rfl K.u_string rfl 2 rfl rfl | exact r_load h rfl K.u_string rfl 3 rfl rfl | exact r_load h rfl K.u_string rfl 4 rfl rfl | exact r_load h rfl K.u_string rfl 5 rfl rfl | exact r_load1 h rfl K.u_string rfl (by assumption)) rfl ?_
  clear h a w; intro a w h
  refine wvG h (by first | exact .t rfl | exact .f rfl | exact .gt rfl | exact .gf rfl) (fun hg => by (try simp only [↓gval_on hg, ↓gval_and hg] at h); (have hg2 := hg; (try simp only [Bool.and_eq_true, Bool.or_eq_true, Bool.not_eq_true', decide_eq_true_eq, decide_eq_false_iff_not] at hg2)); first | exact r_fieldAddr h 33 rfl K.u_api_Commit rfl K.sz_string rfl rfl) rfl ?_
  clear h a w; intro a w h
  refine wvG h (by first | exact .t rfl | exact .f rfl | exact .gt rfl | exact .gf rfl) (fun hg => by (try simp only [↓gval_on hg, ↓gval_and hg] at h); (have hg2 := hg; (try simp only [Bool.and_eq_true, Bool.or_eq_true, Bool.not_eq_true', decide_eq_true_eq, decide_eq_false_iff_not] at hg2)); first | exact r_ldN h rfl K.u_string rfl 0 rfl rfl | exact r_ldN h rfl K.u_string rfl 1 rfl rfl | exact r_ldN h rfl K.u_string rfl 2 rfl rfl | exact r_ldN h rfl K.u_string rfl 3 rfl rfl | exact r_ldN h rfl K.u_string rfl 4 rfl rfl | exact r_ldN h rfl K.u_string rfl 5 rfl rfl | exact r_ldN h rfl K.u_string rfl 6 rfl rfl | exact r_ldC (o := 33) h rfl K.u_string rfl 0 rfl | exact r_ldC (o := 33) h rfl K.u_string rfl 1 rfl | exact r_ldC (o := 33) h rfl K.u_string rfl 2 rfl | exact r_ldC (o := 33) h rfl K.u_string rfl 3 rfl | exact r_ldC (o := 33) h rfl K.u_string rfl 4 rfl | exact r_ldC (o := 33) h rfl K.u_string rfl 5 rfl | exact r_ldC (o := 33) h rfl K.u_string rfl 6 rfl | exact r_load h rfl K.u_string rfl 0 rfl rfl | exact r_load h rfl K.u_string rfl 1 rfl rfl | exact r_load h rfl K.u_string rfl 2 rfl rfl | exact r_load h rfl K.u_string rfl 3 rfl rfl | exact r_load h rfl K.u_string rfl 4 rfl rfl | exact r_load h rfl K.u_string rfl 5 rfl rfl | exact r_load1 h rfl K.u_string rfl (by assumption)) rfl ?_
  clear h a w; intro a w h
  refine wvG h (by first | exact .t rfl | exact .f rfl | exact .gt rfl | exact .gf rfl) (fun hg => by (try simp only [↓gval_on hg, ↓gval_and hg] at h); (have hg2 := hg; (try simp only [Bool.and_eq_true, Bool.or_eq_true, Bool.not_eq_true', decide_eq_true_eq, decide_eq_false_iff_not] at hg2)); first | exact r_strne h rfl rfl) rfl ?_
  clear h a w; intro a w h
  first
    | (refine wv h (r_pickA h rfl rfl rfl) rfl ?_)
    | (refine wv h (r_pickO h rfl rfl rfl) rfl ?_)
    | (refine wv h (r_pick_true h rfl rfl) rfl ?_)
    | (refine wv h (r_pick_false h rfl rfl) rfl ?_)
    | (refine wv h (r_pick h rfl rfl rfl) rfl ?_)
  clear h a w; intro a w h
  refine wv h (r_move h rfl) rfl ?_
  clear h a w; intro a w h
  refine wvG h (by first | exact .t rfl | exact .f rfl | exact .gt rfl | exact .gf rfl) (fun hg => by (try simp only [↓gval_on hg, ↓gval_and hg] at h); (have hg2 := hg; (try simp only [Bool.and_eq_true, Bool.or_eq_true, Bool.not_eq_true', decide_eq_true_eq, decide_eq_false_iff_not] at hg2)); first | exact r_fieldAddr h 32 rfl K.u_api_Commit rfl K.sz_S_api_Key rfl rfl) rfl ?_
  clear h a w; intro a w h
  refine wvG h (by first | exact .t rfl | exact .f rfl | exact .gt rfl | exact .gf rfl) (fun hg => by (try simp only [↓gval_on hg, ↓gval_and hg] at h); (have hg2 := hg; (try simp only [Bool.and_eq_true, Bool.or_eq_true, Bool.not_eq_true', decide_eq_true_eq, decide_eq_false_iff_not] at hg2)); first | exact r_ldN h rfl K.u_S_api_Key rfl 0 rfl rfl | exact r_ldN h rfl K.u_S_api_Key rfl 1 rfl rfl | exact r_ldN h rfl K.u_S_api_Key rfl 2 rfl rfl | exact r_ldN h rfl K.u_S_api_Key rfl 3 rfl rfl | exact r_ldN h rfl K.u_S_api_Key rfl 4 rfl rfl | exact r_ldN h rfl K.u_S_api_Key rfl 5 rfl rfl | exact r_ldN h rfl K.u_S_api_Key rfl 6 rfl rfl | exact r_ldC (o := 32) h rfl K.u_S_api_Key rfl 0 rfl | exact r_ldC (o := 32) h rfl K.u_S_api_Key rfl 1 rfl | exact r_ldC (o := 32) h rfl K.u_S_api_Key rfl 2 rfl | exact r_ldC (o := 32) h rfl K.u_S_api_Key rfl 3 rfl | exact r_ldC (o := 32) h rfl K.u_S_api_Key rfl 4 rfl | exact r_ldC (o := 32) h rfl K.u_S_api_Key rfl 5 rfl | exact r_ldC (o := 32) h rfl K.u_S_api_Key rfl 6 rfl | exact r_load h rfl K.u_S_api_Key rfl 0 rfl rfl | exact r_load h rfl K.u_S_api_Key rfl 1 rfl rfl | exact r_load h rfl K.u_S_api_Key rfl 2 rfl rfl | exact r_load h rfl K.u_S_api_Key rfl 3 rfl rfl | exact r_load h rfl K.u_S_api_Key rfl 4 rfl rfl | exact r_load h rfl K.u_S_api_Key rfl 5 rfl rfl | exact r_load1 h rfl K.u_S_api_Key rfl (by assumption)) rfl ?_
  clear h a w; intro a w h
  refine wvG h (by first | exact .t rfl | exact .f rfl | exact .gt rfl | exact .gf rfl) (fun hg => by (try simp only [↓gval_on hg, ↓gval_and hg] at h); (have hg2 := hg; (try simp only [Bool.and_eq_true, Bool.or_eq_true, Bool.not_eq_true', decide_eq_true_eq, decide_eq_false_iff_not] at hg2)); first | exact r_lenV h rfl K.u_S_api_Key (by first | exact Views.own 0 rfl | exact Views.own 1 rfl | exact Views.own 2 rfl | exact Views.own 3 rfl | exact Views.own 4 rfl | exact Views.own 5 rfl | assumption | exact Views.of_drop 1 (by assumption) | exact Views.of_drop 2 (by assumption) | exact Views.of_drop 3 (by assumption) | exact Views.of_drop 4 (by assumption) | exact Views.of_drop 5 (by assumption) | exact Views.of_drop 6 (by assumption) | exact Views.of_drop 7 (by assumption) | exact Views.of_drop 8 (by assumption) | exact Views.of_drop 9 (by assumption) | exact Views.of_drop 10 (by assumption) | exact Views.of_drop 11 (by assumption) | exact Views.of_drop 12 (by assumption))) rfl ?_
  clear h a w; intro a w h
  refine wvG h (by first | exact .t rfl | exact .f rfl | exact .gt rfl | exact .gf rfl) (fun hg => by (try simp only [↓gval_on hg, ↓gval_and hg] at h); (have hg2 := hg; (try simp only [Bool.and_eq_true, Bool.or_eq_true, Bool.not_eq_true', decide_eq_true_eq, decide_eq_false_iff_not] at hg2)); first | exact r_fieldAddr h 32 rfl K.u_api_Commit rfl K.sz_S_api_Key rfl rfl) rfl ?_
  clear h a w; intro a w h
  refine wvG h (by first | exact .t rfl | exact .f rfl | exact .gt rfl | exact .gf rfl) (fun hg => by (try simp only [↓gval_on hg, ↓gval_and hg] at h); (have hg2 := hg; (try simp only [Bool.and_eq_true, Bool.or_eq_true, Bool.not_eq_true', decide_eq_true_eq, decide_eq_false_iff_not] at hg2)); first | exact r_ldN h rfl K.u_S_api_Key rfl 0 rfl rfl | exact r_ldN h rfl K.u_S_api_Key rfl 1 rfl rfl | exact r_ldN h rfl K.u_S_api_Key rfl 2 rfl rfl | exact r_ldN h rfl K.u_S_api_Key rfl 3 rfl rfl | exact r_ldN h rfl K.u_S_api_Key rfl 4 rfl rfl | exact r_ldN h rfl K.u_S_api_Key rfl 5 rfl rfl | exact r_ldN h rfl K.u_S_api_Key rfl 6 rfl rfl | exact r_ldC (o := 32) h rfl K.u_S_api_Key rfl 0 rfl | exact r_ldC (o := 32) h rfl K.u_S_api_Key rfl 1 rfl | exact r_ldC (o := 32) h rfl K.u_S_api_Key rfl 2 rfl | exact r_ldC (o := 32) h rfl K.u_S_api_Key rfl 3 rfl | exact r_ldC (o := 32) h rfl K.u_S_api_Key rfl 4 rfl | exact r_ldC (o := 32) h rfl K.u_S_api_Key rfl 5 rfl | exact r_ldC (o := 32) h rfl K.u_S_api_Key rfl 6 rfl | exact r_load h rfl K.u_S_api_Key rfl 0 rfl rfl | exact r_load h rfl K.u_S_api_Key rfl 1 rfl rfl | exact r_load h rfl K.u_S_api_Key rfl 2 rfl rfl | exact r_load h rfl K.u_S_api_Key rfl 3 rfl rfl | exact r_load h rfl K.u_S_api_Key rfl 4 rfl rfl | exact r_load h rfl K.u_S_api_Key rfl 5 rfl rfl | exact r_load1 h rfl K.u_S_api_Key rfl (by assumption)) rfl ?_
  clear h a w; intro a w h
  refine wvG h (by first | exact .t rfl | exact .f rfl | exact .gt rfl | exact .gf rfl) (fun hg => by (try simp only [↓gval_on hg, ↓gval_and hg] at h); (have hg2 := hg; (try simp only [Bool.and_eq_true, Bool.or_eq_true, Bool.not_eq_true', decide_eq_true_eq, decide_eq_false_iff_not] at hg2)); first | exact r_lenV h rfl K.u_S_api_Key (by first | exact Views.own 0 rfl | exact Views.own 1 rfl | exact Views.own 2 rfl | exact Views.own 3 rfl | exact Views.own 4 rfl | exact Views.own 5 rfl | assumption | exact Views.of_drop 1 (by assumption) | exact Views.of_drop 2 (by assumption) | exact Views.of_drop 3 (by assumption) | exact Views.of_drop 4 (by assumption) | exact Views.of_drop 5 (by assumption) | exact Views.of_drop 6 (by assumption) | exact Views.of_drop 7 (by assumption) | exact Views.of_drop 8 (by assumption) | exact Views.of_drop 9 (by assumption) | exact Views.of_drop 10 (by assumption) | exact Views.of_drop 11 (by assumption) | exact Views.of_drop 12 (by assumption))) rfl ?_
  clear h a w; intro a w h
  refine wvG h (by first | exact .t rfl | exact .f rfl | exact .gt rfl | exact .gf rfl) (fun hg => by (try simp only [↓gval_on hg, ↓gval_and hg] at h); (have hg2 := hg; (try simp only [Bool.and_eq_true, Bool.or_eq_true, Bool.not_eq_true', decide_eq_true_eq, decide_eq_false_iff_not] at hg2)); first | exact r_bin h rfl rfl (B.neq_int)) rfl ?_
  clear h a w; intro a w h
  first
    | (refine wv h (r_pickA h rfl rfl rfl) rfl ?_)
    | (refine wv h (r_pickO h rfl rfl rfl) rfl ?_)
    | (refine wv h (r_pick_true h rfl rfl) rfl ?_)
    | (refine wv h (r_pick_false h rfl rfl) rfl ?_)
    | (refine wv h (r_pick h rfl rfl rfl) rfl ?_)
  clear h a w; intro a w h
  refine wnil (c_then ?_)
  first
    | refine c_condD h rfl (fun ht1 => ?_) (fun ht1 => ?_)
    | refine c_condP h rfl (by first | (simp only [Bool.and_eq_true, Bool.or_eq_true, Bool.not_eq_true', decide_eq_true_eq, decide_eq_false_iff_not, ne_eq, Bool.not_eq_eq_eq_not, Bool.not_true, beq_iff_eq, bne_iff_ne]; exact Iff.rfl) | exact Iff.rfl) (fun ht1 => ?_) (fun ht1 => ?_)
  ·
    as_aux_lemma =>
      refine c_seq (c_region ?_)
      refine wv h (r_assign h rfl) rfl ?_
      clear h a w; intro a w h
      refine wnil (c_then ?_)
      refine c_ret ?_
      exact ret1 h rfl rfl ⟨(), by rw [decide_eq_false (fun q => by rw [cm_eq] at q; rcases ht1 with (q1 | q1) | q1; exact q1 q.1; exact q1 q.2.1; exact q1 (by rw [q.2.2]))], h.2.drop 2, trivial⟩
  ·
    obtain ⟨⟨e1, e2⟩, e3⟩ : (c.chart.val = d.chart.val ∧ c.note = d.note) ∧ (c.parents.length : Int) = d.parents.length := by
      simpa only [not_or, Decidable.not_not] using ht1
    refine c_skip ?_
    refine c_then ?_
    refine c_seq ?_
    refine c_seq (c_region ?_)
    refine wv h (r_fieldAddr h 32 rfl K.u_api_Commit rfl K.sz_S_api_Key rfl rfl) rfl ?_
    clear h a w; intro a w h
    first
      | (refine wv h (r_ldN h rfl K.u_S_api_Key rfl 0 rfl rfl) rfl ?_)
      | (refine wv h (r_ldN h rfl K.u_S_api_Key rfl 1 rfl rfl) rfl ?_)
      | (refine wv h (r_ldN h rfl K.u_S_api_Key rfl 2 rfl rfl) rfl ?_)
      | (refine wv h (r_ldN h rfl K.u_S_api_Key rfl 3 rfl rfl) rfl ?_)
      | (refine wv h (r_ldN h rfl K.u_S_api_Key rfl 4 rfl rfl) rfl ?_)
      | (refine wv h (r_ldN h rfl K.u_S_api_Key rfl 5 rfl rfl) rfl ?_)
      | (refine wv h (r_ldN h rfl K.u_S_api_Key rfl 6 rfl rfl) rfl ?_)
      | (refine wv h (r_ldC (o := 32) h rfl K.u_S_api_Key rfl 0 rfl) rfl ?_)
      | (refine wv h (r_ldC (o := 32) h rfl K.u_S_api_Key rfl 1 rfl) rfl ?_)
      | (refine wv h (r_ldC (o := 32) h rfl K.u_S_api_Key rfl 2 rfl) rfl ?_)
      | (refine wv h (r_ldC (o := 32) h rfl K.u_S_api_Key rfl 3 rfl) rfl ?_)
      | (refine wv h (r_ldC (o := 32) h rfl K.u_S_api_Key rfl 4 rfl) rfl ?_)
      | (refine wv h (r_ldC (o := 32) h rfl K.u_S_api_Key rfl 5 rfl) rfl ?_)
      | (refine wv h (r_ldC (o := 32) h rfl K.u_S_api_Key rfl 6 rfl) rfl ?_)
      | (refine wv h (r_load h rfl K.u_S_api_Key rfl 0 rfl rfl) rfl ?_)
      | (refine wv h (r_load h rfl K.u_S_api_Key rfl 1 rfl rfl) rfl ?_)
      | (refine wv h (r_load h rfl K.u_S_api_Key rfl 2 rfl rfl) rfl ?_)
      | (refine wv h (r_load h rfl K.u_S_api_Key rfl 3 rfl rfl) rfl ?_)
      | (refine wv h (r_load h rfl K.u_S_api_Key rfl 4 rfl rfl) rfl ?_)
      | (refine wv h (r_load h rfl K.u_S_api_Key rfl 5 rfl rfl) rfl ?_)
      | (refine wv h (r_load1 h rfl K.u_S_api_Key rfl (by assumption)) rfl ?_)
    clear h a w; intro a w h
    refine wv h (r_lenV h rfl K.u_S_api_Key (by first | exact Views.own 0 rfl | exact Views.own 1 rfl | exact Views.own 2 rfl | exact Views.own 3 rfl | exact Views.own 4 rfl | exact Views.own 5 rfl | assumption | exact Views.of_drop 1 (by assumption) | exact Views.of_drop 2 (by assumption) | exact Views.of_drop 3 (by assumption) | exact Views.of_drop 4 (by assumption) | exact Views.of_drop 5 (by assumption) | exact Views.of_drop 6 (by assumption) | exact Views.of_drop 7 (by assumption) | exact Views.of_drop 8 (by assumption) | exact Views.of_drop 9 (by assumption) | exact Views.of_drop 10 (by assumption) | exact Views.of_drop 11 (by assumption) | exact Views.of_drop 12 (by assumption))) rfl ?_
    clear h a w; intro a w h
    refine wv h (r_move h rfl) rfl ?_
    clear h a w; intro a w h
    refine wnil (c_then ?_)
    refine c_block ?_
    refine c_loopX h (X := Nat) (fun i => [(2, .pointer (some ⟨b2, 0, none⟩)), (3, .pointer (some ⟨b3, 0, none⟩)), (29, pv), (30, .int .i64 (c.parents.length : Int)), (31, .int .i64 (i : Int))])
      (fun _ => Blk b3 (.cells ⟨cmC d.chart qw (sv d.note)⟩ t_api_Commit) :: Blk b2 (.cells ⟨cmC c.chart pv (sv c.note)⟩ t_api_Commit) :: F) (fun i => i ≤ c.parents.length ∧ c.parents.take i = d.parents.take i) (fun i => c.parents.length - i) 0 (h.keep [2, 3, 29, 30, 31]) ⟨Nat.zero_le _, rfl⟩ ?_
    clear h a w; intro i a w hx h
    obtain ⟨hx1, hx2⟩ := hx
    as_aux_lemma =>
      refine c_seq (c_region ?_)
      refine wv h (r_bin h rfl rfl (B.lss_int)) rfl ?_
      clear h a w; intro a w h
      refine wnil (c_then ?_)
      refine c_seq ?_
      first
        | refine c_condD h rfl (fun ht2 => ?_) (fun ht2 => ?_)
        | refine c_condP h rfl (by first | (simp only [Bool.and_eq_true, Bool.or_eq_true, Bool.not_eq_true', decide_eq_true_eq, decide_eq_false_iff_not, ne_eq, Bool.not_eq_eq_eq_not, Bool.not_true, beq_iff_eq, bne_iff_ne]; exact Iff.rfl) | exact Iff.rfl) (fun ht2 => ?_) (fun ht2 => ?_)
      ·
        refine c_skip ?_
        refine c_then ?_
        refine c_seq ?_
        refine c_block ?_
        refine c_seq (c_region ?_)
        refine wv h (r_move h rfl) rfl ?_
        clear h a w; intro a w h
        refine wv h (r_elP h rfl rfl K.u_S_api_Key K.sz_api_Key (by first | exact Views.own 0 rfl | exact Views.own 1 rfl | exact Views.own 2 rfl | exact Views.own 3 rfl | exact Views.own 4 rfl | exact Views.own 5 rfl | assumption | exact Views.of_drop 1 (by assumption) | exact Views.of_drop 2 (by assumption) | exact Views.of_drop 3 (by assumption) | exact Views.of_drop 4 (by assumption) | exact Views.of_drop 5 (by assumption) | exact Views.of_drop 6 (by assumption) | exact Views.of_drop 7 (by assumption) | exact Views.of_drop 8 (by assumption) | exact Views.of_drop 9 (by assumption) | exact Views.of_drop 10 (by assumption) | exact Views.of_drop 11 (by assumption) | exact Views.of_drop 12 (by assumption)) (by first | omega | (simp; done)) (by first | omega | (simp only [List.length_cons, List.length_nil]; omega) | (simp; done) | (simp; omega))) rfl ?_
        clear h a w; intro a w h
        first
          | (refine wv h (r_elM h rfl K.u_api_Key rfl K.sz_api_Key rfl (by first | exact Views.own 0 rfl | exact Views.own 1 rfl | exact Views.own 2 rfl | exact Views.own 3 rfl | exact Views.own 4 rfl | exact Views.own 5 rfl | assumption | exact Views.of_drop 1 (by assumption) | exact Views.of_drop 2 (by assumption) | exact Views.of_drop 3 (by assumption) | exact Views.of_drop 4 (by assumption) | exact Views.of_drop 5 (by assumption) | exact Views.of_drop 6 (by assumption) | exact Views.of_drop 7 (by assumption) | exact Views.of_drop 8 (by assumption) | exact Views.of_drop 9 (by assumption) | exact Views.of_drop 10 (by assumption) | exact Views.of_drop 11 (by assumption) | exact Views.of_drop 12 (by assumption)) (by assumption)) rfl ?_)
          | (refine wv h (r_elMd h rfl K.u_api_Key rfl K.sz_api_Key rfl (by first | exact Views.own 0 rfl | exact Views.own 1 rfl | exact Views.own 2 rfl | exact Views.own 3 rfl | exact Views.own 4 rfl | exact Views.own 5 rfl | assumption | exact Views.of_drop 1 (by assumption) | exact Views.of_drop 2 (by assumption) | exact Views.of_drop 3 (by assumption) | exact Views.of_drop 4 (by assumption) | exact Views.of_drop 5 (by assumption) | exact Views.of_drop 6 (by assumption) | exact Views.of_drop 7 (by assumption) | exact Views.of_drop 8 (by assumption) | exact Views.of_drop 9 (by assumption) | exact Views.of_drop 10 (by assumption) | exact Views.of_drop 11 (by assumption) | exact Views.of_drop 12 (by assumption)) (by first | omega | (simp only [List.length_cons, List.length_nil]; omega) | (simp; done) | (simp; omega))) rfl ?_)
        clear h a w; intro a w h
        refine wl rfl (op_alloc h K.z_api_Key rfl ?_)
        clear h a w; intro b6 a w h
        rw [show (Value.agg (Array.replicate 32 (Value.int .u8 0))).cells = arr8 (List.replicate 32 0) from (arr8_zero 32).symm] at h
        refine wv h (r_assign h rfl) rfl ?_
        clear h a w; intro a w h
        first
          | (refine wl rfl (op_storeA8 h rfl rfl K.sz_api_Key (by first | rfl | assumption | (simp; done) | (simp; omega) | omega) 0 rfl (by first | rfl | (simp [arr8]; done) | (simp [arr8]; omega) | (simp [arr8]; assumption)) ?_))
          | (refine wl rfl (op_storeA8 h rfl rfl K.sz_api_Key (by first | rfl | assumption | (simp; done) | (simp; omega) | omega) 1 rfl (by first | rfl | (simp [arr8]; done) | (simp [arr8]; omega) | (simp [arr8]; assumption)) ?_))
          | (refine wl rfl (op_storeA8 h rfl rfl K.sz_api_Key (by first | rfl | assumption | (simp; done) | (simp; omega) | omega) 2 rfl (by first | rfl | (simp [arr8]; done) | (simp [arr8]; omega) | (simp [arr8]; assumption)) ?_))
          | (refine wl rfl (op_storeA8 h rfl rfl K.sz_api_Key (by first | rfl | assumption | (simp; done) | (simp; omega) | omega) 3 rfl (by first | rfl | (simp [arr8]; done) | (simp [arr8]; omega) | (simp [arr8]; assumption)) ?_))
          | (refine wl rfl (op_storeA8 h rfl rfl K.sz_api_Key (by first | rfl | assumption | (simp; done) | (simp; omega) | omega) 4 rfl (by first | rfl | (simp [arr8]; done) | (simp [arr8]; omega) | (simp [arr8]; assumption)) ?_))
          | (refine wl rfl (op_storeA8 h rfl rfl K.sz_api_Key (by first | rfl | assumption | (simp; done) | (simp; omega) | omega) 5 rfl (by first | rfl | (simp [arr8]; done) | (simp [arr8]; omega) | (simp [arr8]; assumption)) ?_))
        clear h a w; intro a w h
        (try simp only [List.set_cons_zero, List.set_cons_succ] at h)
        refine wnil (c_then ?_)
        refine c_seq (c_draw K.mixed (by kernel_rfl) h ?_)
        clear h a w; intro a hE
        first
          | (refine qv hE (fun w hw => r_loadA8 ⟨hE, hw⟩ rfl K.u_api_Key rfl K.sz_api_Key 0 rfl (by first | rfl | assumption | (simp; done) | (simp; omega) | omega)) rfl ?_)
          | (refine qv hE (fun w hw => r_loadA8 ⟨hE, hw⟩ rfl K.u_api_Key rfl K.sz_api_Key 1 rfl (by first | rfl | assumption | (simp; done) | (simp; omega) | omega)) rfl ?_)
          | (refine qv hE (fun w hw => r_loadA8 ⟨hE, hw⟩ rfl K.u_api_Key rfl K.sz_api_Key 2 rfl (by first | rfl | assumption | (simp; done) | (simp; omega) | omega)) rfl ?_)
          | (refine qv hE (fun w hw => r_loadA8 ⟨hE, hw⟩ rfl K.u_api_Key rfl K.sz_api_Key 3 rfl (by first | rfl | assumption | (simp; done) | (simp; omega) | omega)) rfl ?_)
          | (refine qv hE (fun w hw => r_loadA8 ⟨hE, hw⟩ rfl K.u_api_Key rfl K.sz_api_Key 4 rfl (by first | rfl | assumption | (simp; done) | (simp; omega) | omega)) rfl ?_)
          | (refine qv hE (fun w hw => r_loadA8 ⟨hE, hw⟩ rfl K.u_api_Key rfl K.sz_api_Key 5 rfl (by first | rfl | assumption | (simp; done) | (simp; omega) | omega)) rfl ?_)
          | (refine qv hE (fun w hw => r_loadCA ⟨hE, hw⟩ rfl K.u_api_Key rfl K.sz_api_Key (by assumption) (by first | rfl | assumption | (simp; done) | (simp; omega) | omega)) rfl ?_)
        clear hE a; intro a hE
        first
          | (refine qv hE (fun w hw => r_fieldAddr ⟨hE, hw⟩ 32 rfl K.u_api_Commit rfl K.sz_S_api_Key rfl rfl) rfl ?_)
          | (refine qv hE (fun w hw => op_fieldC ⟨hE, hw⟩ 32 rfl K.u_api_Commit rfl K.sz_S_api_Key rfl rfl (by assumption) rfl) rfl ?_)
        clear hE a; intro a hE
        first
          | (refine qv hE (fun w hw => r_ldN ⟨hE, hw⟩ rfl K.u_S_api_Key rfl 0 rfl rfl) rfl ?_)
          | (refine qv hE (fun w hw => r_ldN ⟨hE, hw⟩ rfl K.u_S_api_Key rfl 1 rfl rfl) rfl ?_)
          | (refine qv hE (fun w hw => r_ldN ⟨hE, hw⟩ rfl K.u_S_api_Key rfl 2 rfl rfl) rfl ?_)
          | (refine qv hE (fun w hw => r_ldN ⟨hE, hw⟩ rfl K.u_S_api_Key rfl 3 rfl rfl) rfl ?_)
          | (refine qv hE (fun w hw => r_ldN ⟨hE, hw⟩ rfl K.u_S_api_Key rfl 4 rfl rfl) rfl ?_)
          | (refine qv hE (fun w hw => r_ldN ⟨hE, hw⟩ rfl K.u_S_api_Key rfl 5 rfl rfl) rfl ?_)
          | (refine qv hE (fun w hw => r_ldN ⟨hE, hw⟩ rfl K.u_S_api_Key rfl 6 rfl rfl) rfl ?_)
          | (refine qv hE (fun w hw => r_ldC (o := 32) ⟨hE, hw⟩ rfl K.u_S_api_Key rfl 0 rfl) rfl ?_)
          | (refine qv hE (fun w hw => r_ldC (o := 32) ⟨hE, hw⟩ rfl K.u_S_api_Key rfl 1 rfl) rfl ?_)
          | (refine qv hE (fun w hw => r_ldC (o := 32) ⟨hE, hw⟩ rfl K.u_S_api_Key rfl 2 rfl) rfl ?_)
          | (refine qv hE (fun w hw => r_ldC (o := 32) ⟨hE, hw⟩ rfl K.u_S_api_Key rfl 3 rfl) rfl ?_)
          | (refine qv hE (fun w hw => r_ldC (o := 32) ⟨hE, hw⟩ rfl K.u_S_api_Key rfl 4 rfl) rfl ?_)
          | (refine qv hE (fun w hw => r_ldC (o := 32) ⟨hE, hw⟩ rfl K.u_S_api_Key rfl 5 rfl) rfl ?_)
          | (refine qv hE (fun w hw => r_ldC (o := 32) ⟨hE, hw⟩ rfl K.u_S_api_Key rfl 6 rfl) rfl ?_)
          | (refine qv hE (fun w hw => r_load ⟨hE, hw⟩ rfl K.u_S_api_Key rfl 0 rfl rfl) rfl ?_)
          | (refine qv hE (fun w hw => r_load ⟨hE, hw⟩ rfl K.u_S_api_Key rfl 1 rfl rfl) rfl ?_)
          | (refine qv hE (fun w hw => r_load ⟨hE, hw⟩ rfl K.u_S_api_Key rfl 2 rfl rfl) rfl ?_)
          | (refine qv hE (fun w hw => r_load ⟨hE, hw⟩ rfl K.u_S_api_Key rfl 3 rfl rfl) rfl ?_)
          | (refine qv hE (fun w hw => r_load ⟨hE, hw⟩ rfl K.u_S_api_Key rfl 4 rfl rfl) rfl ?_)
          | (refine qv hE (fun w hw => r_load ⟨hE, hw⟩ rfl K.u_S_api_Key rfl 5 rfl rfl) rfl ?_)
          | (refine qv hE (fun w hw => r_load1 ⟨hE, hw⟩ rfl K.u_S_api_Key rfl (by assumption)) rfl ?_)
        clear hE a; intro a hE
        refine qv hE (fun w hw => r_move ⟨hE, hw⟩ rfl) rfl ?_
        clear hE a; intro a hE
        refine qv hE (fun w hw => r_elP ⟨hE, hw⟩ rfl rfl K.u_S_api_Key K.sz_api_Key (by first | exact Views.own 0 rfl | exact Views.own 1 rfl | exact Views.own 2 rfl | exact Views.own 3 rfl | exact Views.own 4 rfl | exact Views.own 5 rfl | assumption | exact Views.of_drop 1 (by assumption) | exact Views.of_drop 2 (by assumption) | exact Views.of_drop 3 (by assumption) | exact Views.of_drop 4 (by assumption) | exact Views.of_drop 5 (by assumption) | exact Views.of_drop 6 (by assumption) | exact Views.of_drop 7 (by assumption) | exact Views.of_drop 8 (by assumption) | exact Views.of_drop 9 (by assumption) | exact Views.of_drop 10 (by assumption) | exact Views.of_drop 11 (by assumption) | exact Views.of_drop 12 (by assumption)) (by first | omega | (simp; done)) (by first | omega | (simp only [List.length_cons, List.length_nil]; omega) | (simp; done) | (simp; omega))) rfl ?_
        clear hE a; intro a hE
        first
          | (refine qv hE (fun w hw => r_elM ⟨hE, hw⟩ rfl K.u_api_Key rfl K.sz_api_Key rfl (by first | exact Views.own 0 rfl | exact Views.own 1 rfl | exact Views.own 2 rfl | exact Views.own 3 rfl | exact Views.own 4 rfl | exact Views.own 5 rfl | assumption | exact Views.of_drop 1 (by assumption) | exact Views.of_drop 2 (by assumption) | exact Views.of_drop 3 (by assumption) | exact Views.of_drop 4 (by assumption) | exact Views.of_drop 5 (by assumption) | exact Views.of_drop 6 (by assumption) | exact Views.of_drop 7 (by assumption) | exact Views.of_drop 8 (by assumption) | exact Views.of_drop 9 (by assumption) | exact Views.of_drop 10 (by assumption) | exact Views.of_drop 11 (by assumption) | exact Views.of_drop 12 (by assumption)) (by assumption)) rfl ?_)
          | (refine qv hE (fun w hw => r_elMd ⟨hE, hw⟩ rfl K.u_api_Key rfl K.sz_api_Key rfl (by first | exact Views.own 0 rfl | exact Views.own 1 rfl | exact Views.own 2 rfl | exact Views.own 3 rfl | exact Views.own 4 rfl | exact Views.own 5 rfl | assumption | exact Views.of_drop 1 (by assumption) | exact Views.of_drop 2 (by assumption) | exact Views.of_drop 3 (by assumption) | exact Views.of_drop 4 (by assumption) | exact Views.of_drop 5 (by assumption) | exact Views.of_drop 6 (by assumption) | exact Views.of_drop 7 (by assumption) | exact Views.of_drop 8 (by assumption) | exact Views.of_drop 9 (by assumption) | exact Views.of_drop 10 (by assumption) | exact Views.of_drop 11 (by assumption) | exact Views.of_drop 12 (by assumption)) (by first | omega | (simp only [List.length_cons, List.length_nil]; omega) | (simp; done) | (simp; omega))) rfl ?_)
        clear hE a; intro a hE
        refine qv hE (fun w hw => r_arrne ⟨hE, hw⟩ rfl rfl K.u_api_Key K.u_uint8 K.sz_uint8 (by kernel_rfl) (by first | rfl | assumption | (simp; done) | (simp; omega) | omega) (by first | rfl | assumption | (simp; done) | (simp; omega) | omega)) rfl ?_
        clear hE a; intro a hE
        refine qnil hE ?_
        clear hE a; intro a w h
        refine c_then ?_
        first
          | refine c_condD h rfl (fun ht3 => ?_) (fun ht3 => ?_)
          | refine c_condP h rfl (by first | (simp only [Bool.and_eq_true, Bool.or_eq_true, Bool.not_eq_true', decide_eq_true_eq, decide_eq_false_iff_not, ne_eq, Bool.not_eq_eq_eq_not, Bool.not_true, beq_iff_eq, bne_iff_ne]; exact Iff.rfl) | exact Iff.rfl) (fun ht3 => ?_) (fun ht3 => ?_)
        ·
          as_aux_lemma =>
            refine c_seq (c_region ?_)
            refine wv h (r_assign h rfl) rfl ?_
            clear h a w; intro a w h
            refine wnil (c_then ?_)
            refine c_ret ?_
            exact ret1 h rfl rfl ⟨(), by rw [decide_eq_false (fun q => get_ne ht3 (cm_eq.1 q).2.2)], h.2.drop 3, trivial⟩
        ·
          refine c_skip ?_
          refine b_normal ?_
          refine c_then ?_
          refine c_region ?_
          refine wv h (r_bin h rfl rfl (B.add_i64 (by omega) (by omega))) rfl ?_
          clear h a w; intro a w h
          refine wv h (r_move h rfl) rfl ?_
          clear h a w; intro a w h
          refine wnil ?_
          exact ⟨i + 1, (h.drop 1).keep [2, 3, 29, 30, 31], ⟨by show i + 1 ≤ _; omega, take_eq hx2 (by omega) (by omega) (Decidable.not_not.1 ht3)⟩, by show c.parents.length - (i + 1) < c.parents.length - i; omega⟩
      ·
        have hi : i = c.parents.length := by omega
        have e4 : c.parents = d.parents := by rwa [List.take_of_length_le (by omega), List.take_of_length_le (by omega)] at hx2
        refine c_exit ?_
        refine e_then ?_
        refine e_then ?_
        refine e_here ?_
        refine c_then ?_
        refine c_seq (c_region ?_)
        refine wv h (r_assign h rfl) rfl ?_
        clear h a w; intro a w h
        refine wnil (c_then ?_)
        refine c_ret ?_
        exact ret1 h rfl rfl ⟨(), by rw [decide_eq_true (cm_eq.2 ⟨e1, e2, e4⟩)], h.2.drop 2, trivial⟩

theorem ref_Same (s w : World) (c d : Cm) (pv qw : Value) (F : List HItem) (hp : Views F 32 pv c.parents.length (c.parents.flatMap cellsA)) (hq : Views F 32 qw d.parents.length (d.parents.flatMap cellsA)) (hs : Sat s w F) :
    Calls P n_ref15_Same #[.agg ⟨cmC c.chart pv (sv c.note)⟩, .agg ⟨cmC d.chart qw (sv d.note)⟩] w (Ret s (fun _ : Unit => .bool (decide (c = d))) (fun _ => F) (fun _ => True)) := by
  have hln := Views.len_le hp hs
  refine enter K.fn_ref15_Same rfl K.nt_ref15_Same rfl hs ?_
  clear hs w; intro a w h
  refine c_seq (c_region ?_)
  refine wl rfl (op_box h rfl rfl ?_)
  clear h a w; intro b2 a w h
  try simp only [Value.cells] at h
  refine wl rfl (op_box h rfl rfl ?_)
  clear h a w; intro b3 a w h
  try simp only [Value.cells] at h
  refine wv h (r_assign h rfl) rfl ?_
  clear h a w; intro a w h
  refine wnil (c_then ?_)
  refine c_seq ?_
  refine c_seq (c_region ?_)
  refine wv h (r_fieldAddr0 h rfl K.u_api_Commit rfl K.sz_api_Key rfl rfl) rfl ?_
  clear h a w; intro a w h
  first
    | (refine wv h (r_ldF8 h rfl K.u_api_Key rfl K.sz_api_Key 0 rfl rfl (by first | rfl | assumption | (simp; done) | (simp; omega) | omega)) rfl ?_)
    | (refine wv h (r_ldF8 h rfl K.u_api_Key rfl K.sz_api_Key 1 rfl rfl (by first | rfl | assumption | (simp; done) | (simp; omega) | omega)) rfl ?_)
    | (refine wv h (r_ldF8 h rfl K.u_api_Key rfl K.sz_api_Key 2 rfl rfl (by first | rfl | assumption | (simp; done) | (simp; omega) | omega)) rfl ?_)
    | (refine wv h (r_ldF8 h rfl K.u_api_Key rfl K.sz_api_Key 3 rfl rfl (by first | rfl | assumption | (simp; done) | (simp; omega) | omega)) rfl ?_)
    | (refine wv h (r_ldF8 h rfl K.u_api_Key rfl K.sz_api_Key 4 rfl rfl (by first | rfl | assumption | (simp; done) | (simp; omega) | omega)) rfl ?_)
    | (refine wv h (r_ldF8 h rfl K.u_api_Key rfl K.sz_api_Key 5 rfl rfl (by first | rfl | assumption | (simp; done) | (simp; omega) | omega)) rfl ?_)
    | (refine wv h (r_ldH8 h rfl K.u_api_Key rfl K.sz_api_Key 0 rfl (by first | rfl | assumption | (simp; done) | (simp; omega) | omega)) rfl ?_)
    | (refine wv h (r_ldH8 h rfl K.u_api_Key rfl K.sz_api_Key 1 rfl (by first | rfl | assumption | (simp; done) | (simp; omega) | omega)) rfl ?_)
    | (refine wv h (r_ldH8 h rfl K.u_api_Key rfl K.sz_api_Key 2 rfl (by first | rfl | assumption | (simp; done) | (simp; omega) | omega)) rfl ?_)
    | (refine wv h (r_ldH8 h rfl K.u_api_Key rfl K.sz_api_Key 3 rfl (by first | rfl | assumption | (simp; done) | (simp; omega) | omega)) rfl ?_)
    | (refine wv h (r_ldH8 h rfl K.u_api_Key rfl K.sz_api_Key 4 rfl (by first | rfl | assumption | (simp; done) | (simp; omega) | omega)) rfl ?_)
    | (refine wv h (r_ldH8 h rfl K.u_api_Key rfl K.sz_api_Key 5 rfl (by first | rfl | assumption | (simp; done) | (simp; omega) | omega)) rfl ?_)
    | (refine wv h (r_loadCA h rfl K.u_api_Key rfl K.sz_api_Key (by assumption) (by first | rfl | assumption | (simp; done) | (simp; omega) | omega)) rfl ?_)
  clear h a w; intro a w h
  refine wv h (r_fieldAddr0 h rfl K.u_api_Commit rfl K.sz_api_Key rfl rfl) rfl ?_
  clear h a w; intro a w h
  first
    | (refine wv h (r_ldF8 h rfl K.u_api_Key rfl K.sz_api_Key 0 rfl rfl (by first | rfl | assumption | (simp; done) | (simp; omega) | omega)) rfl ?_)
    | (refine wv h (r_ldF8 h rfl K.u_api_Key rfl K.sz_api_Key 1 rfl rfl (by first | rfl | assumption | (simp; done) | (simp; omega) | omega)) rfl ?_)
    | (refine wv h (r_ldF8 h rfl K.u_api_Key rfl K.sz_api_Key 2 rfl rfl (by first | rfl | assumption | (simp; done) | (simp; omega) | omega)) rfl ?_)
    | (refine wv h (r_ldF8 h rfl K.u_api_Key rfl K.sz_api_Key 3 rfl rfl (by first | rfl | assumption | (simp; done) | (simp; omega) | omega)) rfl ?_)
    | (refine wv h (r_ldF8 h rfl K.u_api_Key rfl K.sz_api_Key 4 rfl rfl (by first | rfl | assumption | (simp; done) | (simp; omega) | omega)) rfl ?_)
    | (refine wv h (r_ldF8 h rfl K.u_api_Key rfl K.sz_api_Key 5 rfl rfl (by first | rfl | assumption | (simp; done) | (simp; omega) | omega)) rfl ?_)
    | (refine wv h (r_ldH8 h rfl K.u_api_Key rfl K.sz_api_Key 0 rfl (by first | rfl | assumption | (simp; done) | (simp; omega) | omega)) rfl ?_)
    | (refine wv h (r_ldH8 h rfl K.u_api_Key rfl K.sz_api_Key 1 rfl (by first | rfl | assumption | (simp; done) | (simp; omega) | omega)) rfl ?_)
    | (refine wv h (r_ldH8 h rfl K.u_api_Key rfl K.sz_api_Key 2 rfl (by first | rfl | assumption | (simp; done) | (simp; omega) | omega)) rfl ?_)
    | (refine wv h (r_ldH8 h rfl K.u_api_Key rfl K.sz_api_Key 3 rfl (by first | rfl | assumption | (simp; done) | (simp; omega) | omega)) rfl ?_)
    | (refine wv h (r_ldH8 h rfl K.u_api_Key rfl K.sz_api_Key 4 rfl (by first | rfl | assumption | (simp; done) | (simp; omega) | omega)) rfl ?_)
    | (refine wv h (r_ldH8 h rfl K.u_api_Key rfl K.sz_api_Key 5 rfl (by first | rfl | assumption | (simp; done) | (simp; omega) | omega)) rfl ?_)
    | (refine wv h (r_loadCA h rfl K.u_api_Key rfl K.sz_api_Key (by assumption) (by first | rfl | assumption | (simp; done) | (simp; omega) | omega)) rfl ?_)
  clear h a w; intro a w h
  refine wv h (r_arrne h rfl rfl K.u_api_Key K.u_uint8 K.sz_uint8 (by kernel_rfl) (by first | rfl | assumption | (simp; done) | (simp; omega) | omega) (by first | rfl | assumption | (simp; done) | (simp; omega) | omega)) rfl ?_
  clear h a w; intro a w h
  refine wv h (r_move h rfl) rfl ?_
  clear h a w; intro a w h
  refine wvG h (by first | exact .t rfl | exact .f rfl | exact .gt rfl | exact .gf rfl) (fun hg => by (try simp only [↓gval_on hg, ↓gval_and hg] at h); (have hg2 := hg; (try simp only [Bool.and_eq_true, Bool.or_eq_true, Bool.not_eq_true', decide_eq_true_eq, decide_eq_false_iff_not] at hg2)); first | exact r_fieldAddr h 33 rfl K.u_api_Commit rfl K.sz_string rfl rfl) rfl ?_
  clear h a w; intro a w h
  refine wvG h (by first | exact .t rfl | exact .f rfl | exact .gt rfl | exact .gf rfl) (fun hg => by (try simp only [↓gval_on hg, ↓gval_and hg] at h); (have hg2 := hg; (try simp only [Bool.and_eq_true, Bool.or_eq_true, Bool.not_eq_true', decide_eq_true_eq, decide_eq_false_iff_not] at hg2)); first | exact r_ldN h rfl K.u_string rfl 0 rfl rfl | exact r_ldN h rfl K.u_string rfl 1 rfl rfl | exact r_ldN h rfl K.u_string rfl 2 rfl rfl | exact r_ldN h rfl K.u_string rfl 3 rfl rfl | exact r_ldN h rfl K.u_string rfl 4 rfl rfl | exact r_ldN h rfl K.u_string rfl 5 rfl rfl | exact r_ldN h rfl K.u_string rfl 6 rfl rfl | exact r_ldC (o := 33) h rfl K.u_string rfl 0 rfl | exact r_ldC (o := 33) h rfl K.u_string rfl 1 rfl | exact r_ldC (o := 33) h rfl K.u_string rfl 2 rfl | exact r_ldC (o := 33) h rfl K.u_string rfl 3 rfl | exact r_ldC (o := 33) h rfl K.u_string rfl 4 rfl | exact r_ldC (o := 33) h rfl K.u_string rfl 5 rfl | exact r_ldC (o := 33) h rfl K.u_string rfl 6 rfl | exact r_load h rfl K.u_string rfl 0 rfl rfl | exact r_load h rfl K.u_string rfl 1 rfl rfl | exact r_load h rfl K.u_string rfl 2 rfl rfl | exact r_load h rfl K.u_string rfl 3 rfl rfl | exact r_load h rfl K.u_string rfl 4 rfl rfl | exact r_load h rfl K.u_string rfl 5 rfl rfl | exact r_load1 h rfl K.u_string rfl (by assumption)) rfl ?_
  clear h a w; intro a w h
  refine wvG h (by first | exact .t rfl | exact .f rfl | exact .gt rfl | exact .gf rfl) (fun hg => by (try simp only [↓gval_on hg, ↓gval_and hg] at h); (have hg2 := hg; (try simp only [Bool.and_eq_true, Bool.or_eq_true, Bool.not_eq_true', decide_eq_true_eq, decide_eq_false_iff_not] at hg2)); first | exact r_fieldAddr h 33 rfl K.u_api_Commit rfl K.sz_string rfl rfl) rfl ?_
  clear h a w; intro a w h
  refine wvG h (by first | exact .t rfl | exact .f rfl | exact .gt rfl | exact .gf rfl) (fun hg => by (try simp only [↓gval_on hg, ↓gval_and hg] at h); (have hg2 := hg; (try simp only [Bool.and_eq_true, Bool.or_eq_true, Bool.not_eq_true', decide_eq_true_eq, decide_eq_false_iff_not] at hg2)); first | exact r_ldN h rfl K.u_string rfl 0 rfl rfl | exact r_ldN h rfl K.u_string rfl 1 rfl rfl | exact r_ldN h rfl K.u_string rfl 2 rfl rfl | exact r_ldN h rfl K.u_string rfl 3 rfl rfl | exact r_ldN h rfl K.u_string rfl 4 rfl rfl | exact r_ldN h rfl K.u_string rfl 5 rfl rfl | exact r_ldN h rfl K.u_string rfl 6 rfl rfl | exact r_ldC (o := 33) h rfl K.u_string rfl 0 rfl | exact r_ldC (o := 33) h rfl K.u_string rfl 1 rfl | exact r_ldC (o := 33) h rfl K.u_string rfl 2 rfl | exact r_ldC (o := 33) h rfl K.u_string rfl 3 rfl | exact r_ldC (o := 33) h rfl K.u_string rfl 4 rfl | exact r_ldC (o := 33) h rfl K.u_string rfl 5 rfl | exact r_ldC (o := 33) h rfl K.u_string rfl 6 rfl | exact r_load h rfl K.u_string rfl 0 rfl rfl | exact r_load h rfl K.u_string rfl 1 rfl rfl | exact r_load h rfl K.u_string rfl 2 rfl rfl | exact r_load h rfl K.u_string rfl 3 rfl rfl | exact r_load h rfl K.u_string rfl 4 rfl rfl | exact r_load h rfl K.u_string rfl 5 rfl rfl | exact r_load1 h rfl K.u_string rfl (by assumption)) rfl ?_
  clear h a w; intro a w h
  refine wvG h (by first | exact .t rfl | exact .f rfl | exact .gt rfl | exact .gf rfl) (fun hg => by (try simp only [↓gval_on hg, ↓gval_and hg] at h); (have hg2 := hg; (try simp only [Bool.and_eq_true, Bool.or_eq_true, Bool.not_eq_true', decide_eq_true_eq, decide_eq_false_iff_not] at hg2)); first | exact r_strne h rfl rfl) rfl ?_
  clear h a w; intro a w h
  first
    | (refine wv h (r_pickA h rfl rfl rfl) rfl ?_)
    | (refine wv h (r_pickO h rfl rfl rfl) rfl ?_)
    | (refine wv h (r_pick_true h rfl rfl) rfl ?_)
    | (refine wv h (r_pick_false h rfl rfl) rfl ?_)
    | (refine wv h (r_pick h rfl rfl rfl) rfl ?_)
  clear h a w; intro a w h
  refine wv h (r_move h rfl) rfl ?_
  clear h a w; intro a w h
  refine wvG h (by first | exact .t rfl | exact .f rfl | exact .gt rfl | exact .gf rfl) (fun hg => by (try simp only [↓gval_on hg, ↓gval_and hg] at h); (have hg2 := hg; (try simp only [Bool.and_eq_true, Bool.or_eq_true, Bool.not_eq_true', decide_eq_true_eq, decide_eq_false_iff_not] at hg2)); first | exact r_fieldAddr h 32 rfl K.u_api_Commit rfl K.sz_S_api_Key rfl rfl) rfl ?_
  clear h a w; intro a w h
  refine wvG h (by first | exact .t rfl | exact .f rfl | exact .gt rfl | exact .gf rfl) (fun hg => by (try simp only [↓gval_on hg, ↓gval_and hg] at h); (have hg2 := hg; (try simp only [Bool.and_eq_true, Bool.or_eq_true, Bool.not_eq_true', decide_eq_true_eq, decide_eq_false_iff_not] at hg2)); first | exact r_ldN h rfl K.u_S_api_Key rfl 0 rfl rfl | exact r_ldN h rfl K.u_S_api_Key rfl 1 rfl rfl | exact r_ldN h rfl K.u_S_api_Key rfl 2 rfl rfl | exact r_ldN h rfl K.u_S_api_Key rfl 3 rfl rfl | exact r_ldN h rfl K.u_S_api_Key rfl 4 rfl rfl | exact r_ldN h rfl K.u_S_api_Key rfl 5 rfl rfl | exact r_ldN h rfl K.u_S_api_Key rfl 6 rfl rfl | exact r_ldC (o := 32) h rfl K.u_S_api_Key rfl 0 rfl | exact r_ldC (o := 32) h rfl K.u_S_api_Key rfl 1 rfl | exact r_ldC (o := 32) h rfl K.u_S_api_Key rfl 2 rfl | exact r_ldC (o := 32) h rfl K.u_S_api_Key rfl 3 rfl | exact r_ldC (o := 32) h rfl K.u_S_api_Key rfl 4 rfl | exact r_ldC (o := 32) h rfl K.u_S_api_Key rfl 5 rfl | exact r_ldC (o := 32) h rfl K.u_S_api_Key rfl 6 rfl | exact r_load h rfl K.u_S_api_Key rfl 0 rfl rfl | exact r_load h rfl K.u_S_api_Key rfl 1 rfl rfl | exact r_load h rfl K.u_S_api_Key rfl 2 rfl rfl | exact r_load h rfl K.u_S_api_Key rfl 3 rfl rfl | exact r_load h rfl K.u_S_api_Key rfl 4 rfl rfl | exact r_load h rfl K.u_S_api_Key rfl 5 rfl rfl | exact r_load1 h rfl K.u_S_api_Key rfl (by assumption)) rfl ?_
  clear h a w; intro a w h
  refine wvG h (by first | exact .t rfl | exact .f rfl | exact .gt rfl | exact .gf rfl) (fun hg => by (try simp only [↓gval_on hg, ↓gval_and hg] at h); (have hg2 := hg; (try simp only [Bool.and_eq_true, Bool.or_eq_true, Bool.not_eq_true', decide_eq_true_eq, decide_eq_false_iff_not] at hg2)); first | exact r_lenV h rfl K.u_S_api_Key (by first | exact Views.own 0 rfl | exact Views.own 1 rfl | exact Views.own 2 rfl | exact Views.own 3 rfl | exact Views.own 4 rfl | exact Views.own 5 rfl | assumption | exact Views.of_drop 1 (by assumption) | exact Views.of_drop 2 (by assumption) | exact Views.of_drop 3 (by assumption) | exact Views.of_drop 4 (by assumption) | exact Views.of_drop 5 (by assumption) | exact Views.of_drop 6 (by assumption) | exact Views.of_drop 7 (by assumption) | exact Views.of_drop 8 (by assumption) | exact Views.of_drop 9 (by assumption) | exact Views.of_drop 10 (by assumption) | exact Views.of_drop 11 (by assumption) | exact Views.of_drop 12 (by assumption))) rfl ?_
  clear h a w; intro a w h
  refine wvG h (by first | exact .t rfl | exact .f rfl | exact .gt rfl | exact .gf rfl) (fun hg => by (try simp only [↓gval_on hg, ↓gval_and hg] at h); (have hg2 := hg; (try simp only [Bool.and_eq_true, Bool.or_eq_true, Bool.not_eq_true', decide_eq_true_eq, decide_eq_false_iff_not] at hg2)); first | exact r_fieldAddr h 32 rfl K.u_api_Commit rfl K.sz_S_api_Key rfl rfl) rfl ?_
  clear h a w; intro a w h
  refine wvG h (by first | exact .t rfl | exact .f rfl | exact .gt rfl | exact .gf rfl) (fun hg => by (try simp only [↓gval_on hg, ↓gval_and hg] at h); (have hg2 := hg; (try simp only [Bool.and_eq_true, Bool.or_eq_true, Bool.not_eq_true', decide_eq_true_eq, decide_eq_false_iff_not] at hg2)); first | exact r_ldN h rfl K.u_S_api_Key rfl 0 rfl rfl | exact r_ldN h rfl K.u_S_api_Key rfl 1 rfl rfl | exact r_ldN h rfl K.u_S_api_Key rfl 2 rfl rfl | exact r_ldN h rfl K.u_S_api_Key rfl 3 rfl rfl | exact r_ldN h rfl K.u_S_api_Key rfl 4 rfl rfl | exact r_ldN h rfl K.u_S_api_Key rfl 5 rfl rfl | exact r_ldN h rfl K.u_S_api_Key rfl 6 rfl rfl | exact r_ldC (o := 32) h rfl K.u_S_api_Key rfl 0 rfl | exact r_ldC (o := 32) h rfl K.u_S_api_Key rfl 1 rfl | exact r_ldC (o := 32) h rfl K.u_S_api_Key rfl 2 rfl | exact r_ldC (o := 32) h rfl K.u_S_api_Key rfl 3 rfl | exact r_ldC (o := 32) h rfl K.u_S_api_Key rfl 4 rfl | exact r_ldC (o := 32) h rfl K.u_S_api_Key rfl 5 rfl | exact r_ldC (o := 32) h rfl K.u_S_api_Key rfl 6 rfl | exact r_load h rfl K.u_S_api_Key rfl 0 rfl rfl | exact r_load h rfl K.u_S_api_Key rfl 1 rfl rfl | exact r_load h rfl K.u_S_api_Key rfl 2 rfl rfl | exact r_load h rfl K.u_S_api_Key rfl 3 rfl rfl | exact r_load h rfl K.u_S_api_Key rfl 4 rfl rfl | exact r_load h rfl K.u_S_api_Key rfl 5 rfl rfl | exact r_load1 h rfl K.u_S_api_Key rfl (by assumption)) rfl ?_
  clear h a w; intro a w h
  refine wvG h (by first | exact .t rfl | exact .f rfl | exact .gt rfl | exact .gf rfl) (fun hg => by (try simp only [↓gval_on hg, ↓gval_and hg] at h); (have hg2 := hg; (try simp only [Bool.and_eq_true, Bool.or_eq_true, Bool.not_eq_true', decide_eq_true_eq, decide_eq_false_iff_not] at hg2)); first | exact r_lenV h rfl K.u_S_api_Key (by first | exact Views.own 0 rfl | exact Views.own 1 rfl | exact Views.own 2 rfl | exact Views.own 3 rfl | exact Views.own 4 rfl | exact Views.own 5 rfl | assumption | exact Views.of_drop 1 (by assumption) | exact Views.of_drop 2 (by assumption) | exact Views.of_drop 3 (by assumption) | exact Views.of_drop 4 (by assumption) | exact Views.of_drop 5 (by assumption) | exact Views.of_drop 6 (by assumption) | exact Views.of_drop 7 (by assumption) | exact Views.of_drop 8 (by assumption) | exact Views.of_drop 9 (by assumption) | exact Views.of_drop 10 (by assumption) | exact Views.of_drop 11 (by assumption) | exact Views.of_drop 12 (by assumption))) rfl ?_
  clear h a w; intro a w h
  refine wvG h (by first | exact .t rfl | exact .f rfl | exact .gt rfl | exact .gf rfl) (fun hg => by (try simp only [↓gval_on hg, ↓gval_and hg] at h); (have hg2 := hg; (try simp only [Bool.and_eq_true, Bool.or_eq_true, Bool.not_eq_true', decide_eq_true_eq, decide_eq_false_iff_not] at hg2)); first | exact r_bin h rfl rfl (B.neq_int)) rfl ?_
  clear h a w; intro a w h
  first
    | (refine wv h (r_pickA h rfl rfl rfl) rfl ?_)
    | (refine wv h (r_pickO h rfl rfl rfl) rfl ?_)
    | (refine wv h (r_pick_true h rfl rfl) rfl ?_)
    | (refine wv h (r_pick_false h rfl rfl) rfl ?_)
    | (refine wv h (r_pick h rfl rfl rfl) rfl ?_)
  clear h a w; intro a w h
  refine wnil (c_then ?_)
  first
    | refine c_condD h rfl (fun ht1 => ?_) (fun ht1 => ?_)
    | refine c_condP h rfl (by first | (simp only [Bool.and_eq_true, Bool.or_eq_true, Bool.not_eq_true', decide_eq_true_eq, decide_eq_false_iff_not, ne_eq, Bool.not_eq_eq_eq_not, Bool.not_true, beq_iff_eq, bne_iff_ne]; exact Iff.rfl) | exact Iff.rfl) (fun ht1 => ?_) (fun ht1 => ?_)
  ·
    as_aux_lemma =>
      refine c_seq (c_region ?_)
      refine wv h (r_assign h rfl) rfl ?_
      clear h a w; intro a w h
      refine wnil (c_then ?_)
      refine c_ret ?_
      exact ret1 h rfl rfl ⟨(), by rw [decide_eq_false (fun q => by rw [cm_eq] at q; rcases ht1 with (q1 | q1) | q1; exact q1 q.1; exact q1 q.2.1; exact q1 (by rw [q.2.2]))], h.2.drop 2, trivial⟩
  ·
    obtain ⟨⟨e1, e2⟩, e3⟩ : (c.chart.val = d.chart.val ∧ c.note = d.note) ∧ (c.parents.length : Int) = d.parents.length := by
      simpa only [not_or, Decidable.not_not] using ht1
    refine c_skip ?_
    refine c_then ?_
    refine c_seq ?_
    refine c_seq (c_region ?_)
    refine wv h (r_assign h rfl) rfl ?_
    clear h a w; intro a w h
    refine wnil (c_then ?_)
    refine c_block ?_
    refine c_loopX h (X := Nat) (fun i => [(2, .pointer (some ⟨b2, 0, none⟩)), (3, .pointer (some ⟨b3, 0, none⟩)), (5, .int .i64 (i : Int))])
      (fun _ => Blk b3 (.cells ⟨cmC d.chart qw (sv d.note)⟩ t_api_Commit) :: Blk b2 (.cells ⟨cmC c.chart pv (sv c.note)⟩ t_api_Commit) :: F) (fun i => i ≤ c.parents.length ∧ c.parents.take i = d.parents.take i) (fun i => c.parents.length - i) 0 (h.keep [2, 3, 5]) ⟨Nat.zero_le _, rfl⟩ ?_
    clear h a w; intro i a w hx h
    obtain ⟨hx1, hx2⟩ := hx
    as_aux_lemma =>
      refine c_seq ?_
      refine c_seq (c_region ?_)
      refine wv h (r_move h rfl) rfl ?_
      clear h a w; intro a w h
      refine wv h (r_fieldAddr h 32 rfl K.u_api_Commit rfl K.sz_S_api_Key rfl rfl) rfl ?_
      clear h a w; intro a w h
      first
        | (refine wv h (r_ldN h rfl K.u_S_api_Key rfl 0 rfl rfl) rfl ?_)
        | (refine wv h (r_ldN h rfl K.u_S_api_Key rfl 1 rfl rfl) rfl ?_)
        | (refine wv h (r_ldN h rfl K.u_S_api_Key rfl 2 rfl rfl) rfl ?_)
        | (refine wv h (r_ldN h rfl K.u_S_api_Key rfl 3 rfl rfl) rfl ?_)
        | (refine wv h (r_ldN h rfl K.u_S_api_Key rfl 4 rfl rfl) rfl ?_)
        | (refine wv h (r_ldN h rfl K.u_S_api_Key rfl 5 rfl rfl) rfl ?_)
        | (refine wv h (r_ldN h rfl K.u_S_api_Key rfl 6 rfl rfl) rfl ?_)
        | (refine wv h (r_ldC (o := 32) h rfl K.u_S_api_Key rfl 0 rfl) rfl ?_)
        | (refine wv h (r_ldC (o := 32) h rfl K.u_S_api_Key rfl 1 rfl) rfl ?_)
        | (refine wv h (r_ldC (o := 32) h rfl K.u_S_api_Key rfl 2 rfl) rfl ?_)
        | (refine wv h (r_ldC (o := 32) h rfl K.u_S_api_Key rfl 3 rfl) rfl ?_)
        | (refine wv h (r_ldC (o := 32) h rfl K.u_S_api_Key rfl 4 rfl) rfl ?_)
        | (refine wv h (r_ldC (o := 32) h rfl K.u_S_api_Key rfl 5 rfl) rfl ?_)
        | (refine wv h (r_ldC (o := 32) h rfl K.u_S_api_Key rfl 6 rfl) rfl ?_)
        | (refine wv h (r_load h rfl K.u_S_api_Key rfl 0 rfl rfl) rfl ?_)
        | (refine wv h (r_load h rfl K.u_S_api_Key rfl 1 rfl rfl) rfl ?_)
        | (refine wv h (r_load h rfl K.u_S_api_Key rfl 2 rfl rfl) rfl ?_)
        | (refine wv h (r_load h rfl K.u_S_api_Key rfl 3 rfl rfl) rfl ?_)
        | (refine wv h (r_load h rfl K.u_S_api_Key rfl 4 rfl rfl) rfl ?_)
        | (refine wv h (r_load h rfl K.u_S_api_Key rfl 5 rfl rfl) rfl ?_)
        | (refine wv h (r_load1 h rfl K.u_S_api_Key rfl (by assumption)) rfl ?_)
      clear h a w; intro a w h
      refine wv h (r_lenV h rfl K.u_S_api_Key (by first | exact Views.own 0 rfl | exact Views.own 1 rfl | exact Views.own 2 rfl | exact Views.own 3 rfl | exact Views.own 4 rfl | exact Views.own 5 rfl | assumption | exact Views.of_drop 1 (by assumption) | exact Views.of_drop 2 (by assumption) | exact Views.of_drop 3 (by assumption) | exact Views.of_drop 4 (by assumption) | exact Views.of_drop 5 (by assumption) | exact Views.of_drop 6 (by assumption) | exact Views.of_drop 7 (by assumption) | exact Views.of_drop 8 (by assumption) | exact Views.of_drop 9 (by assumption) | exact Views.of_drop 10 (by assumption) | exact Views.of_drop 11 (by assumption) | exact Views.of_drop 12 (by assumption))) rfl ?_
      clear h a w; intro a w h
      refine wv h (r_bin h rfl rfl (B.lss_int)) rfl ?_
      clear h a w; intro a w h
      refine wnil (c_then ?_)
      first
        | refine c_condD h rfl (fun ht2 => ?_) (fun ht2 => ?_)
        | refine c_condP h rfl (by first | (simp only [Bool.and_eq_true, Bool.or_eq_true, Bool.not_eq_true', decide_eq_true_eq, decide_eq_false_iff_not, ne_eq, Bool.not_eq_eq_eq_not, Bool.not_true, beq_iff_eq, bne_iff_ne]; exact Iff.rfl) | exact Iff.rfl) (fun ht2 => ?_) (fun ht2 => ?_)
      ·
        refine c_skip ?_
        refine c_then ?_
        refine c_seq ?_
        refine c_block ?_
        refine c_seq (c_draw K.mixed (by kernel_rfl) h ?_)
        clear h a w; intro a hE
        first
          | (refine qv hE (fun w hw => r_fieldAddr ⟨hE, hw⟩ 32 rfl K.u_api_Commit rfl K.sz_S_api_Key rfl rfl) rfl ?_)
          | (refine qv hE (fun w hw => op_fieldC ⟨hE, hw⟩ 32 rfl K.u_api_Commit rfl K.sz_S_api_Key rfl rfl (by assumption) rfl) rfl ?_)
        clear hE a; intro a hE
        first
          | (refine qv hE (fun w hw => r_ldN ⟨hE, hw⟩ rfl K.u_S_api_Key rfl 0 rfl rfl) rfl ?_)
          | (refine qv hE (fun w hw => r_ldN ⟨hE, hw⟩ rfl K.u_S_api_Key rfl 1 rfl rfl) rfl ?_)
          | (refine qv hE (fun w hw => r_ldN ⟨hE, hw⟩ rfl K.u_S_api_Key rfl 2 rfl rfl) rfl ?_)
          | (refine qv hE (fun w hw => r_ldN ⟨hE, hw⟩ rfl K.u_S_api_Key rfl 3 rfl rfl) rfl ?_)
          | (refine qv hE (fun w hw => r_ldN ⟨hE, hw⟩ rfl K.u_S_api_Key rfl 4 rfl rfl) rfl ?_)
          | (refine qv hE (fun w hw => r_ldN ⟨hE, hw⟩ rfl K.u_S_api_Key rfl 5 rfl rfl) rfl ?_)
          | (refine qv hE (fun w hw => r_ldN ⟨hE, hw⟩ rfl K.u_S_api_Key rfl 6 rfl rfl) rfl ?_)
          | (refine qv hE (fun w hw => r_ldC (o := 32) ⟨hE, hw⟩ rfl K.u_S_api_Key rfl 0 rfl) rfl ?_)
          | (refine qv hE (fun w hw => r_ldC (o := 32) ⟨hE, hw⟩ rfl K.u_S_api_Key rfl 1 rfl) rfl ?_)
          | (refine qv hE (fun w hw => r_ldC (o := 32) ⟨hE, hw⟩ rfl K.u_S_api_Key rfl 2 rfl) rfl ?_)
          | (refine qv hE (fun w hw => r_ldC (o := 32) ⟨hE, hw⟩ rfl K.u_S_api_Key rfl 3 rfl) rfl ?_)
          | (refine qv hE (fun w hw => r_ldC (o := 32) ⟨hE, hw⟩ rfl K.u_S_api_Key rfl 4 rfl) rfl ?_)
          | (refine qv hE (fun w hw => r_ldC (o := 32) ⟨hE, hw⟩ rfl K.u_S_api_Key rfl 5 rfl) rfl ?_)
          | (refine qv hE (fun w hw => r_ldC (o := 32) ⟨hE, hw⟩ rfl K.u_S_api_Key rfl 6 rfl) rfl ?_)
          | (refine qv hE (fun w hw => r_load ⟨hE, hw⟩ rfl K.u_S_api_Key rfl 0 rfl rfl) rfl ?_)
          | (refine qv hE (fun w hw => r_load ⟨hE, hw⟩ rfl K.u_S_api_Key rfl 1 rfl rfl) rfl ?_)
          | (refine qv hE (fun w hw => r_load ⟨hE, hw⟩ rfl K.u_S_api_Key rfl 2 rfl rfl) rfl ?_)
          | (refine qv hE (fun w hw => r_load ⟨hE, hw⟩ rfl K.u_S_api_Key rfl 3 rfl rfl) rfl ?_)
          | (refine qv hE (fun w hw => r_load ⟨hE, hw⟩ rfl K.u_S_api_Key rfl 4 rfl rfl) rfl ?_)
          | (refine qv hE (fun w hw => r_load ⟨hE, hw⟩ rfl K.u_S_api_Key rfl 5 rfl rfl) rfl ?_)
          | (refine qv hE (fun w hw => r_load1 ⟨hE, hw⟩ rfl K.u_S_api_Key rfl (by assumption)) rfl ?_)
        clear hE a; intro a hE
        refine qv hE (fun w hw => r_move ⟨hE, hw⟩ rfl) rfl ?_
        clear hE a; intro a hE
        refine qv hE (fun w hw => r_elP ⟨hE, hw⟩ rfl rfl K.u_S_api_Key K.sz_api_Key (by first | exact Views.own 0 rfl | exact Views.own 1 rfl | exact Views.own 2 rfl | exact Views.own 3 rfl | exact Views.own 4 rfl | exact Views.own 5 rfl | assumption | exact Views.of_drop 1 (by assumption) | exact Views.of_drop 2 (by assumption) | exact Views.of_drop 3 (by assumption) | exact Views.of_drop 4 (by assumption) | exact Views.of_drop 5 (by assumption) | exact Views.of_drop 6 (by assumption) | exact Views.of_drop 7 (by assumption) | exact Views.of_drop 8 (by assumption) | exact Views.of_drop 9 (by assumption) | exact Views.of_drop 10 (by assumption) | exact Views.of_drop 11 (by assumption) | exact Views.of_drop 12 (by assumption)) (by first | omega | (simp; done)) (by first | omega | (simp only [List.length_cons, List.length_nil]; omega) | (simp; done) | (simp; omega))) rfl ?_
        clear hE a; intro a hE
        first
          | (refine qv hE (fun w hw => r_elM ⟨hE, hw⟩ rfl K.u_api_Key rfl K.sz_api_Key rfl (by first | exact Views.own 0 rfl | exact Views.own 1 rfl | exact Views.own 2 rfl | exact Views.own 3 rfl | exact Views.own 4 rfl | exact Views.own 5 rfl | assumption | exact Views.of_drop 1 (by assumption) | exact Views.of_drop 2 (by assumption) | exact Views.of_drop 3 (by assumption) | exact Views.of_drop 4 (by assumption) | exact Views.of_drop 5 (by assumption) | exact Views.of_drop 6 (by assumption) | exact Views.of_drop 7 (by assumption) | exact Views.of_drop 8 (by assumption) | exact Views.of_drop 9 (by assumption) | exact Views.of_drop 10 (by assumption) | exact Views.of_drop 11 (by assumption) | exact Views.of_drop 12 (by assumption)) (by assumption)) rfl ?_)
          | (refine qv hE (fun w hw => r_elMd ⟨hE, hw⟩ rfl K.u_api_Key rfl K.sz_api_Key rfl (by first | exact Views.own 0 rfl | exact Views.own 1 rfl | exact Views.own 2 rfl | exact Views.own 3 rfl | exact Views.own 4 rfl | exact Views.own 5 rfl | assumption | exact Views.of_drop 1 (by assumption) | exact Views.of_drop 2 (by assumption) | exact Views.of_drop 3 (by assumption) | exact Views.of_drop 4 (by assumption) | exact Views.of_drop 5 (by assumption) | exact Views.of_drop 6 (by assumption) | exact Views.of_drop 7 (by assumption) | exact Views.of_drop 8 (by assumption) | exact Views.of_drop 9 (by assumption) | exact Views.of_drop 10 (by assumption) | exact Views.of_drop 11 (by assumption) | exact Views.of_drop 12 (by assumption)) (by first | omega | (simp only [List.length_cons, List.length_nil]; omega) | (simp; done) | (simp; omega))) rfl ?_)
        clear hE a; intro a hE
        first
          | (refine qv hE (fun w hw => r_fieldAddr ⟨hE, hw⟩ 32 rfl K.u_api_Commit rfl K.sz_S_api_Key rfl rfl) rfl ?_)
          | (refine qv hE (fun w hw => op_fieldC ⟨hE, hw⟩ 32 rfl K.u_api_Commit rfl K.sz_S_api_Key rfl rfl (by assumption) rfl) rfl ?_)
        clear hE a; intro a hE
        first
          | (refine qv hE (fun w hw => r_ldN ⟨hE, hw⟩ rfl K.u_S_api_Key rfl 0 rfl rfl) rfl ?_)
          | (refine qv hE (fun w hw => r_ldN ⟨hE, hw⟩ rfl K.u_S_api_Key rfl 1 rfl rfl) rfl ?_)
          | (refine qv hE (fun w hw => r_ldN ⟨hE, hw⟩ rfl K.u_S_api_Key rfl 2 rfl rfl) rfl ?_)
          | (refine qv hE (fun w hw => r_ldN ⟨hE, hw⟩ rfl K.u_S_api_Key rfl 3 rfl rfl) rfl ?_)
          | (refine qv hE (fun w hw => r_ldN ⟨hE, hw⟩ rfl K.u_S_api_Key rfl 4 rfl rfl) rfl ?_)
          | (refine qv hE (fun w hw => r_ldN ⟨hE, hw⟩ rfl K.u_S_api_Key rfl 5 rfl rfl) rfl ?_)
          | (refine qv hE (fun w hw => r_ldN ⟨hE, hw⟩ rfl K.u_S_api_Key rfl 6 rfl rfl) rfl ?_)
          | (refine qv hE (fun w hw => r_ldC (o := 32) ⟨hE, hw⟩ rfl K.u_S_api_Key rfl 0 rfl) rfl ?_)
          | (refine qv hE (fun w hw => r_ldC (o := 32) ⟨hE, hw⟩ rfl K.u_S_api_Key rfl 1 rfl) rfl ?_)
          | (refine qv hE (fun w hw => r_ldC (o := 32) ⟨hE, hw⟩ rfl K.u_S_api_Key rfl 2 rfl) rfl ?_)
          | (refine qv hE (fun w hw => r_ldC (o := 32) ⟨hE, hw⟩ rfl K.u_S_api_Key rfl 3 rfl) rfl ?_)
          | (refine qv hE (fun w hw => r_ldC (o := 32) ⟨hE, hw⟩ rfl K.u_S_api_Key rfl 4 rfl) rfl ?_)
          | (refine qv hE (fun w hw => r_ldC (o := 32) ⟨hE, hw⟩ rfl K.u_S_api_Key rfl 5 rfl) rfl ?_)
          | (refine qv hE (fun w hw => r_ldC (o := 32) ⟨hE, hw⟩ rfl K.u_S_api_Key rfl 6 rfl) rfl ?_)
          | (refine qv hE (fun w hw => r_load ⟨hE, hw⟩ rfl K.u_S_api_Key rfl 0 rfl rfl) rfl ?_)
          | (refine qv hE (fun w hw => r_load ⟨hE, hw⟩ rfl K.u_S_api_Key rfl 1 rfl rfl) rfl ?_)
          | (refine qv hE (fun w hw => r_load ⟨hE, hw⟩ rfl K.u_S_api_Key rfl 2 rfl rfl) rfl ?_)
          | (refine qv hE (fun w hw => r_load ⟨hE, hw⟩ rfl K.u_S_api_Key rfl 3 rfl rfl) rfl ?_)
          | (refine qv hE (fun w hw => r_load ⟨hE, hw⟩ rfl K.u_S_api_Key rfl 4 rfl rfl) rfl ?_)
          | (refine qv hE (fun w hw => r_load ⟨hE, hw⟩ rfl K.u_S_api_Key rfl 5 rfl rfl) rfl ?_)
          | (refine qv hE (fun w hw => r_load1 ⟨hE, hw⟩ rfl K.u_S_api_Key rfl (by assumption)) rfl ?_)
        clear hE a; intro a hE
        refine qv hE (fun w hw => r_move ⟨hE, hw⟩ rfl) rfl ?_
        clear hE a; intro a hE
        refine qv hE (fun w hw => r_elP ⟨hE, hw⟩ rfl rfl K.u_S_api_Key K.sz_api_Key (by first | exact Views.own 0 rfl | exact Views.own 1 rfl | exact Views.own 2 rfl | exact Views.own 3 rfl | exact Views.own 4 rfl | exact Views.own 5 rfl | assumption | exact Views.of_drop 1 (by assumption) | exact Views.of_drop 2 (by assumption) | exact Views.of_drop 3 (by assumption) | exact Views.of_drop 4 (by assumption) | exact Views.of_drop 5 (by assumption) | exact Views.of_drop 6 (by assumption) | exact Views.of_drop 7 (by assumption) | exact Views.of_drop 8 (by assumption) | exact Views.of_drop 9 (by assumption) | exact Views.of_drop 10 (by assumption) | exact Views.of_drop 11 (by assumption) | exact Views.of_drop 12 (by assumption)) (by first | omega | (simp; done)) (by first | omega | (simp only [List.length_cons, List.length_nil]; omega) | (simp; done) | (simp; omega))) rfl ?_
        clear hE a; intro a hE
        first
          | (refine qv hE (fun w hw => r_elM ⟨hE, hw⟩ rfl K.u_api_Key rfl K.sz_api_Key rfl (by first | exact Views.own 0 rfl | exact Views.own 1 rfl | exact Views.own 2 rfl | exact Views.own 3 rfl | exact Views.own 4 rfl | exact Views.own 5 rfl | assumption | exact Views.of_drop 1 (by assumption) | exact Views.of_drop 2 (by assumption) | exact Views.of_drop 3 (by assumption) | exact Views.of_drop 4 (by assumption) | exact Views.of_drop 5 (by assumption) | exact Views.of_drop 6 (by assumption) | exact Views.of_drop 7 (by assumption) | exact Views.of_drop 8 (by assumption) | exact Views.of_drop 9 (by assumption) | exact Views.of_drop 10 (by assumption) | exact Views.of_drop 11 (by assumption) | exact Views.of_drop 12 (by assumption)) (by assumption)) rfl ?_)
          | (refine qv hE (fun w hw => r_elMd ⟨hE, hw⟩ rfl K.u_api_Key rfl K.sz_api_Key rfl (by first | exact Views.own 0 rfl | exact Views.own 1 rfl | exact Views.own 2 rfl | exact Views.own 3 rfl | exact Views.own 4 rfl | exact Views.own 5 rfl | assumption | exact Views.of_drop 1 (by assumption) | exact Views.of_drop 2 (by assumption) | exact Views.of_drop 3 (by assumption) | exact Views.of_drop 4 (by assumption) | exact Views.of_drop 5 (by assumption) | exact Views.of_drop 6 (by assumption) | exact Views.of_drop 7 (by assumption) | exact Views.of_drop 8 (by assumption) | exact Views.of_drop 9 (by assumption) | exact Views.of_drop 10 (by assumption) | exact Views.of_drop 11 (by assumption) | exact Views.of_drop 12 (by assumption)) (by first | omega | (simp only [List.length_cons, List.length_nil]; omega) | (simp; done) | (simp; omega))) rfl ?_)
        clear hE a; intro a hE
        refine qv hE (fun w hw => r_arrne ⟨hE, hw⟩ rfl rfl K.u_api_Key K.u_uint8 K.sz_uint8 (by kernel_rfl) (by first | rfl | assumption | (simp; done) | (simp; omega) | omega) (by first | rfl | assumption | (simp; done) | (simp; omega) | omega)) rfl ?_
        clear hE a; intro a hE
        refine qnil hE ?_
        clear hE a; intro a w h
        refine c_then ?_
        first
          | refine c_condD h rfl (fun ht3 => ?_) (fun ht3 => ?_)
          | refine c_condP h rfl (by first | (simp only [Bool.and_eq_true, Bool.or_eq_true, Bool.not_eq_true', decide_eq_true_eq, decide_eq_false_iff_not, ne_eq, Bool.not_eq_eq_eq_not, Bool.not_true, beq_iff_eq, bne_iff_ne]; exact Iff.rfl) | exact Iff.rfl) (fun ht3 => ?_) (fun ht3 => ?_)
        ·
          as_aux_lemma =>
            refine c_seq (c_region ?_)
            refine wv h (r_assign h rfl) rfl ?_
            clear h a w; intro a w h
            refine wnil (c_then ?_)
            refine c_ret ?_
            exact ret1 h rfl rfl ⟨(), by rw [decide_eq_false (fun q => get_ne ht3 (cm_eq.1 q).2.2)], h.2.drop 2, trivial⟩
        ·
          refine c_skip ?_
          refine b_normal ?_
          refine c_then ?_
          refine c_region ?_
          refine wv h (r_move h rfl) rfl ?_
          clear h a w; intro a w h
          refine wv h (r_bin h rfl rfl (B.add_i64 (by omega) (by omega))) rfl ?_
          clear h a w; intro a w h
          refine wv h (r_assign h rfl) rfl ?_
          clear h a w; intro a w h
          refine wnil ?_
          exact ⟨i + 1, h.keep [2, 3, 5], ⟨by show i + 1 ≤ _; omega, take_eq hx2 (by omega) (by omega) (Decidable.not_not.1 ht3)⟩, by show c.parents.length - (i + 1) < c.parents.length - i; omega⟩
      ·
        have hi : i = c.parents.length := by omega
        have e4 : c.parents = d.parents := by rwa [List.take_of_length_le (by omega), List.take_of_length_le (by omega)] at hx2
        refine c_exit ?_
        refine e_then ?_
        refine e_then ?_
        refine e_here ?_
        refine c_then ?_
        refine c_seq (c_region ?_)
        refine wv h (r_assign h rfl) rfl ?_
        clear h a w; intro a w h
        refine wnil (c_then ?_)
        refine c_ret ?_
        exact ret1 h rfl rfl ⟨(), by rw [decide_eq_true (cm_eq.2 ⟨e1, e2, e4⟩)], h.2.drop 2, trivial⟩
end Go.Proofs.K
