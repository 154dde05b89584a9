/- What PackErrs rests on, part 5 of 6: the small library for walks, contracts of functions, plain laws. No statement is proved here. -/
import Derived.Test.YtfhlbfalgdipiaaDoorPackErrsZ4
set_option linter.unusedVariables false
set_option linter.unusedSimpArgs false
set_option maxRecDepth 100000
set_option maxHeartbeats 2000000
/- Packs: read. -/
namespace Go.Sl
def tailP : Option (List UInt8) → Nat → List (List UInt8) → List UInt8
  | _, _, [] => []
  | prev, ch, p :: l =>
    if prev.isSome = true ∧ ch < 4 ∧ (deltaN (prev.getD []) p).length < p.length then numN (2 * (deltaN (prev.getD []) p).length + 1) ++ (deltaN (prev.getD []) p ++ tailP (some p) (ch + 1) l)
    else numN (2 * p.length) ++ (p ++ tailP (some p) 0 l)
def OkP (p : List UInt8) : Prop := 0 < p.length ∧ p.length ≤ 900
theorem encG_some : ∀ (l : List (List UInt8)) (prev : Option (List UInt8)) (ch : Nat) (acc : List UInt8), (∀ p ∈ l, OkP p) → encG prev ch acc l = some (acc ++ tailP prev ch l)
  | [], _, _, acc, _ => by simp [encG, tailP]
  | p :: l, prev, ch, acc, h => by
    have hp := h p (by simp)
    have ih := fun prev ch acc => encG_some l prev ch acc (fun q hq => h q (by simp [hq]))
    rw [encG, tailP, if_neg (by unfold OkP at hp; omega)]
    split
    · rw [ih]; simp
    · rw [ih]; simp
theorem encG_ok : ∀ (l : List (List UInt8)) (prev : Option (List UInt8)) (ch : Nat) (acc b : List UInt8), encG prev ch acc l = some b → ∀ p ∈ l, OkP p
  | [], _, _, _, _, _ => fun p hp => by simp at hp
  | p :: l, prev, ch, acc, b, h => by
    rw [encG] at h
    split at h
    · cases h
    · rename_i hp
      intro q hq
      rcases List.mem_cons.1 hq with rfl | hq
      · unfold OkP; omega
      · split at h
        · exact encG_ok l _ _ _ _ h q hq
        · exact encG_ok l _ _ _ _ h q hq
theorem getN_le : ∀ (l : List UInt8) (i u : Nat) (most : Int), 0 ≤ (getN l i u most).1 ∧ (getN l i u most).1 ≤ max most 0
  | [], _, _, _ => by simp [getN]; omega
  | b :: r, i, u, most => by
    rw [getN]
    split
    · exact ⟨Int.le_refl _, by show (0 : Int) ≤ _; omega⟩
    · split
      · exact getN_le r _ _ _
      · split
        · exact ⟨Int.le_refl _, by show (0 : Int) ≤ _; omega⟩
        · exact ⟨by show (0 : Int) ≤ ((_ : Nat) : Int); omega, by show ((_ : Nat) : Int) ≤ _; omega⟩
theorem eyeNum_le (st : Int × List UInt8) (most : Int) : 0 ≤ (eyeNum st most).1 ∧ (eyeNum st most).1 ≤ max most 0 := by
  unfold eyeNum
  split
  · exact getN_le _ _ _ _
  · exact ⟨Int.le_refl _, by show (0 : Int) ≤ _; omega⟩
theorem eyeRaw_len2 (st : Int × List UInt8) (n : Int) : (eyeRaw st n).1.length ≤ st.2.length ∧ (eyeRaw st n).2.2.length ≤ st.2.length := by
  unfold eyeRaw
  split
  · simp
  · split
    · simp
    · simp; omega
def BytI (xs : List SlV) : HItem := ⟨fun h => ∀ x ∈ xs, RDh 1 x.v x.p.length (bs x.p) h, fun _ _ hl hh x hx => (hh x hx).mono hl⟩
theorem satBytNil {s w : World} {L : List HItem} (h : Sat s w L) : Sat s w (BytI [] :: L) :=
  ⟨h.1, h.2.1, h.2.2.1, fun _ => false, (fun x hx => absurd hx (by simp)), sepL_mono L (fun b o hb => by simpa [restr] using hb) h.2.2.2⟩
theorem satBytMore {s w : World} {L : List HItem} {xs : List SlV} {x : SlV} (h : Sat s w (BytI xs :: OwnB x.v x.p :: L)) : Sat s w (BytI (xs ++ [x]) :: L) := by
  have h2 : Sat s w (Sep [BytI xs, OwnB x.v x.p] :: L) := Sat.sep (M := [BytI xs, OwnB x.v x.p]) h
  refine h2.map 0 (J := BytI (xs ++ [x])) rfl (fun hh hp => ?_)
  obtain ⟨D, h3, D2, h4, _⟩ := hp
  intro y hy
  rcases List.mem_append.1 hy with hy | hy
  · exact (h3 y hy).mono restr_le
  · simp at hy; subst hy
    exact ((Own.reads h4).mono restr_le).mono restr_le
theorem BytI.view {L : List HItem} {xs : List SlV} (j : Nat) (hj : L[j]? = some (BytI xs)) : ∀ x ∈ xs, ViewsB L x.v x.p := fun x hx => Views.of_mem j hj (fun h hp => hp x hx)
def RdR (st : Int × List UInt8) (e : Int) (xs : List SlV) : Prop :=
  ((e = 7 ∧ xs = []) ∨ e = 0) ∧ xs.length ≤ 64 ∧ (∀ x ∈ xs, x.p.length ≤ st.2.length + 900) ∧ ∀ all : List (List UInt8), (∀ p ∈ all, OkP p) → all.length ≤ 64 → st = (0, numN all.length ++ tailP none 0 all) → e = 0 ∧ xs.map SlV.p = all
/-- what a step reads of what Encode wrote -/
theorem read_step {all : List (List UInt8)} {i ch : Nat} {p : List UInt8} (hok : ∀ p ∈ all, OkP p) (hp : all[i]? = some p) {st : Int × List UInt8} (hst : st = (0, tailP (prevP all i) ch (all.drop i))) :
    ∃ (m : Nat) (q : List UInt8) (ch' : Nat), eyeNum st 1801 = ((m : Int), (0, q ++ tailP (prevP all (i + 1)) ch' (all.drop (i + 1)))) ∧ q.length = m / 2 ∧ ((m % 2 = 0 ∧ q = p) ∨ (m % 2 = 1 ∧ 0 < i ∧ ∃ b, all[i - 1]? = some b ∧ q = deltaN b p)) := by
  obtain ⟨hlt, e⟩ := List.getElem?_eq_some_iff.1 hp
  have dp : all.drop i = p :: all.drop (i + 1) := by rw [List.drop_eq_getElem_cons hlt, e]
  have ho := hok p (List.mem_of_getElem? hp)
  unfold OkP at ho
  have hn : prevP all (i + 1) = some p := by rw [prevP, if_neg (by omega), Nat.add_sub_cancel, hp]
  rw [dp, tailP] at hst
  rw [hn]
  split at hst
  · rename_i hc
    obtain ⟨b, hb⟩ := Option.isSome_iff_exists.1 hc.1
    rw [hb] at hst hc
    simp only [Option.getD_some] at hst hc
    have h0 : 0 < i := by
      rcases Nat.eq_zero_or_pos i with e | e
      · rw [e] at hb; simp [prevP] at hb
      · exact e
    rw [prevP, if_neg (by omega)] at hb
    refine ⟨2 * (deltaN b p).length + 1, deltaN b p, ch + 1, ?_, by omega, .inr ⟨by omega, h0, b, hb, rfl⟩⟩
    rw [hst, eyeNum_numN _ _ _ (by omega), if_neg (by omega)]
  · refine ⟨2 * p.length, p, 0, ?_, by omega, .inl ⟨by omega, rfl⟩⟩
    rw [hst, eyeNum_numN _ _ _ (by omega), if_neg (by omega)]
end Go.Sl
namespace Go.Proofs.K
open Go.Sl
attribute [local irreducible] Go.Sl.Own Go.Sl.Blk Go.Sl.Sep Go.Sl.Ex Go.Sl.Fact
theorem pack_read (s w : World) (b : Nat) (st0 : Int × List UInt8) (F : List HItem) (hl : st0.2.length ≤ 90000) (hs : Sat s w (EyeI b st0 :: F)) :
    Calls P n_pack_read #[bp b] w (Ret s (fun z : Value × Int × List SlV => .tuple #[z.1, .int .i64 z.2.1]) (fun z => OwnM 1 cellsS z.1 z.2.2 :: BytI z.2.2 :: F) (fun z => RdR st0 z.2.1 z.2.2)) := by
  refine enter K.fn_pack_read rfl K.nt_pack_read rfl hs ?_
  clear hs w; intro a w h
  refine c_seq (c_region ?_)
  refine wv h (r_assign h rfl) rfl ?_
  clear h a w; intro a w h
  refine wv h (r_assign h rfl) rfl ?_
  clear h a w; intro a w h
  refine wnil (c_then ?_)
  refine c_seq (c_region ?_)
  refine wv h (r_assign h rfl) rfl ?_
  clear h a w; intro a w h
  refine wnil (c_then ?_)
  refine c_meet h (X := Value × List SlV × (Int × List UInt8)) (fun z => [(0, bp b), (4, z.1)]) (fun z => OwnM 1 cellsS z.1 z.2.1 :: BytI z.2.1 :: EyeI b z.2.2 :: F)
    (fun z => z.2.1.length ≤ 64 ∧ (∀ x ∈ z.2.1, x.p.length ≤ st0.2.length + 900) ∧ ∀ all : List (List UInt8), (∀ p ∈ all, OkP p) → all.length ≤ 64 → st0 = (0, numN all.length ++ tailP none 0 all) → z.2.1.map SlV.p = all ∧ z.2.2 = (0, [])) ?_ ?_
  ·
   refine c_seq (c_region ?_)
   refine wv h (r_move h rfl) rfl ?_
   clear h a w; intro a w h
   refine wl rfl (op_call h rfl K.go_digit_Eye_Num (eye_Num s _ b st0 64 _ 0 rfl (by decide) (by decide) (by omega) h.2) rfl ?_)
   clear h a w; intro z11 a w hz11 h
   (simp only [List.set_cons_zero, List.set_cons_succ] at h)
   obtain ⟨N, hN⟩ : ∃ N, N = (eyeNum st0 64).1.toNat := ⟨_, rfl⟩
   obtain ⟨hn1, hn2⟩ := eyeNum_le st0 64
   have hN64 : N ≤ 64 := by omega
   rw [show (eyeNum st0 64).1 = (N : Int) by omega] at h
   have hl1 := eyeNum_len st0 64
   obtain ⟨st1, hst1⟩ : ∃ st, st = (eyeNum st0 64).2 := ⟨_, rfl⟩
   rw [← hst1] at h hl1
   have hgh : ∀ all : List (List UInt8), (∀ p ∈ all, OkP p) → all.length ≤ 64 → st0 = (0, numN all.length ++ tailP none 0 all) → N = all.length ∧ st1 = (0, tailP none 0 all) := by
     intro all h1 h2 h3
     have e := eyeNum_numN all.length (tailP none 0 all) 64 (by omega)
     rw [if_neg (by omega), ← h3] at e
     rw [hN, hst1, e]
     exact ⟨by simp, rfl⟩
   refine wv h (r_move h rfl) rfl ?_
   clear h a w; intro a w h
   refine wnil (c_then ?_)
   refine c_block ?_
   replace h : St _ _ _ _ _ (EyeI b st1 :: OwnM 1 cellsS (.slice none 0 0) [] :: BytI [] :: F) := ⟨h.1, by
     have q := (St.addNilM (size := 1) (cells := cellsS) ⟨h.1, satBytNil h.2⟩).2
     replace q := q.front 2 rfl
     exact q⟩
   refine c_loop (X := Nat × Value × List SlV × (Int × List UInt8)) (fun z => [(0, bp b), (4, z.2.1), (11, .int .i64 (N : Int)), (12, .int .i64 (z.1 : Int))]) (fun z => EyeI b z.2.2.2 :: OwnM 1 cellsS z.2.1 z.2.2.1 :: BytI z.2.2.1 :: F)
     (fun z => z.2.2.1.length = z.1 ∧ z.1 ≤ N ∧ z.2.2.2.2.length ≤ st0.2.length ∧ (∀ x ∈ z.2.2.1, x.p.length ≤ st0.2.length + 900) ∧ ∀ all : List (List UInt8), (∀ p ∈ all, OkP p) → all.length ≤ 64 → st0 = (0, numN all.length ++ tailP none 0 all) → z.2.2.1.map SlV.p = all.take z.1 ∧ ∃ ch, z.2.2.2 = (0, tailP (prevP all z.1) ch (all.drop z.1))) (fun z => N - z.1) (0, .slice none 0 0, [], st1) (h.keep [0, 4, 11, 12])
     ⟨rfl, Nat.zero_le _, hl1, fun x hx => absurd hx (by simp), fun all h1 h2 h3 => ⟨rfl, 0, (hgh all h1 h2 h3).2⟩⟩ ?_
   clear h a w; intro z a w hz h
   obtain ⟨i, v4, xs, st⟩ := z
   obtain ⟨z1, z2, z3, z4, z5⟩ := hz
   simp only at z1 z2 z3 z4 z5 h
   as_aux_lemma =>
    refine c_seq (c_region ?_)
    refine wv h (r_bin h rfl rfl (B.lss_int)) rfl ?_
    clear h a w; intro a w h
    refine wnil (c_then ?_)
    refine c_seq ?_
    refine c_condP (p := i < N) h rfl (by simp) (fun ht1 => ?_) (fun ht1 => ?_)
    ·
     refine c_skip ?_
     refine c_then ?_
     refine c_seq ?_
     refine c_block ?_
     refine c_seq (c_region ?_)
     refine wv h (r_move h rfl) rfl ?_
     clear h a w; intro a w h
     refine wv h (r_assign h rfl) rfl ?_
     clear h a w; intro a w h
     refine wnil (c_then ?_)
     refine c_seq (c_region ?_)
     refine wv h (r_move h rfl) rfl ?_
     clear h a w; intro a w h
     refine wl rfl (op_call h rfl K.go_digit_Eye_Num (eye_Num s _ b st 1801 _ 0 rfl (by decide) (by decide) (by omega) h.2) rfl ?_)
     clear h a w; intro z16 a w hz16 h
     (simp only [List.set_cons_zero, List.set_cons_succ] at h)
     obtain ⟨nn, hnn⟩ : ∃ n, n = (eyeNum st 1801).1.toNat := ⟨_, rfl⟩
     obtain ⟨hm1, hm2⟩ := eyeNum_le st 1801
     rw [show (eyeNum st 1801).1 = (nn : Int) by omega] at h
     have hl2 := eyeNum_len st 1801
     obtain ⟨st2, hst2⟩ : ∃ q, q = (eyeNum st 1801).2 := ⟨_, rfl⟩
     rw [← hst2] at h hl2
     refine wv h (r_assign h rfl) rfl ?_
     clear h a w; intro a w h
     refine wnil (c_then ?_)
     refine c_seq (c_region ?_)
     refine wv h (r_move h rfl) rfl ?_
     clear h a w; intro a w h
     refine wv h (r_move h rfl) rfl ?_
     clear h a w; intro a w h
     refine wv h (r_bin h rfl rfl (B.quo_i64 (by omega) (by omega) (by omega))) rfl ?_
     clear h a w; intro a w h
     rw [show ((nn : Int) / 2) = ((nn / 2 : Nat) : Int) by omega] at h
     refine wl rfl (op_call h rfl K.go_digit_Eye_Raw (eye_Raw s _ b st2 ((nn / 2 : Nat) : Int) _ 0 rfl (by omega) h.2) rfl ?_)
     clear h a w; intro v20 a w hz20 h
     (simp only [List.set_cons_zero, List.set_cons_succ] at h)
     obtain ⟨hr1, hr2⟩ := eyeRaw_len2 st2 ((nn / 2 : Nat) : Int)
     obtain ⟨q, hq⟩ : ∃ q, q = (eyeRaw st2 ((nn / 2 : Nat) : Int)).1 := ⟨_, rfl⟩
     obtain ⟨st3, hst3⟩ : ∃ q, q = (eyeRaw st2 ((nn / 2 : Nat) : Int)).2 := ⟨_, rfl⟩
     rw [← hq, ← hst3] at h
     rw [← hq] at hr1
     rw [← hst3] at hr2
     have gq : ∀ all : List (List UInt8), (∀ p ∈ all, OkP p) → all.length ≤ 64 → st0 = (0, numN all.length ++ tailP none 0 all) → ∃ p ch', all[i]? = some p ∧ p.length ≤ 900 ∧ st3 = (0, tailP (prevP all (i + 1)) ch' (all.drop (i + 1))) ∧ ((nn % 2 = 0 ∧ q = p) ∨ (nn % 2 = 1 ∧ 0 < i ∧ ∃ b, all[i - 1]? = some b ∧ q = deltaN b p)) := by
       intro all h1 h2 h3
       have hNa := (hgh all h1 h2 h3).1
       obtain ⟨_, ch, hst⟩ := z5 all h1 h2 h3
       obtain ⟨p, hp⟩ : ∃ p, all[i]? = some p := ⟨_, List.getElem?_eq_getElem (by omega)⟩
       obtain ⟨m, q', ch', e1, e2, e3⟩ := read_step h1 hp hst
       have e4 : nn = m := by rw [hnn, e1]; simp
       have e5 : st2 = (0, q' ++ tailP (prevP all (i + 1)) ch' (all.drop (i + 1))) := by rw [hst2, e1]
       have e6 := eyeRaw_enc q' (tailP (prevP all (i + 1)) ch' (all.drop (i + 1))) ((nn / 2 : Nat) : Int) (by omega)
       rw [← e5] at e6
       have e7 : q = q' := by rw [hq, e6]
       have e8 : st3 = (0, tailP (prevP all (i + 1)) ch' (all.drop (i + 1))) := by rw [hst3, e6]
       refine ⟨p, ch', hp, (h1 p (List.mem_of_getElem? hp)).2, e8, ?_⟩
       rw [e4, e7]; exact e3
     refine wv h (r_assign h rfl) rfl ?_
     clear h a w; intro a w h
     refine wnil (c_then ?_)
     refine c_meet h (X := Value × List UInt8) (fun z => [(0, bp b), (4, v4), (7, z.1), (11, .int .i64 (N : Int)), (12, .int .i64 (i : Int))]) (fun z => OwnB z.1 z.2 :: EyeI b st3 :: OwnM 1 cellsS v4 xs :: BytI xs :: F)
       (fun z => z.2.length ≤ st0.2.length + 900 ∧ ∀ all : List (List UInt8), (∀ p ∈ all, OkP p) → all.length ≤ 64 → st0 = (0, numN all.length ++ tailP none 0 all) → all[i]? = some z.2) ?_ ?_
     ·
      refine c_seq (c_region ?_)
      refine wv h (r_move h rfl) rfl ?_
      clear h a w; intro a w h
      refine wv h (r_bin h rfl rfl (B.rem_i64 (by omega) (by omega))) rfl ?_
      clear h a w; intro a w h
      refine wv h (r_bin h rfl rfl (B.eql_int)) rfl ?_
      clear h a w; intro a w h
      refine wv h (r_move h rfl) rfl ?_
      clear h a w; intro a w h
      refine wvG h (by exact .t rfl) (fun hg => by (have hg2 := hg; (simp only [Bool.and_eq_true, Bool.or_eq_true, Bool.not_eq_true', decide_eq_true_eq, decide_eq_false_iff_not] at hg2)); exact r_move h rfl) rfl ?_
      clear h a w; intro a w h
      refine wvG h (by exact .t rfl) (fun hg => by (simp only [↓gval_on hg, ↓gval_and hg] at h); (have hg2 := hg; (simp only [Bool.and_eq_true, Bool.or_eq_true, Bool.not_eq_true', decide_eq_true_eq, decide_eq_false_iff_not] at hg2)); exact r_bin h rfl rfl (B.gtr_int)) rfl ?_
      clear h a w; intro a w h
      refine wv h (r_pickA h rfl rfl rfl) rfl ?_
      clear h a w; intro a w h
      refine wnil (c_then ?_)
      refine c_condP (p := nn % 2 = 1 ∧ 0 < i) h rfl (by simp only [Bool.and_eq_true, decide_eq_true_eq]; omega) (fun ht2 => ?_) (fun ht2 => ?_)
      ·
       obtain ⟨x0, hx0⟩ : ∃ x, xs[i - 1]? = some x := ⟨_, List.getElem?_eq_getElem (by omega)⟩
       have hx0m := List.mem_of_getElem? hx0
       have hx0l := z4 x0 hx0m
       have hxc : (xs.flatMap cellsS)[(i - 1) * 1]? = some x0.v := by rw [flatS, Nat.mul_one, List.getElem?_map, hx0]; rfl
       as_aux_lemma =>
        refine c_seq (c_region ?_)
        refine wv h (r_move h rfl) rfl ?_
        clear h a w; intro a w h
        refine wv h (r_move h rfl) rfl ?_
        clear h a w; intro a w h
        refine wv h (r_bin h rfl rfl (B.sub_i64 (by omega) (by omega))) rfl ?_
        clear h a w; intro a w h
        refine wv h (r_elPv h rfl rfl K.u_S_S_uint8 K.sz_S_uint8 (Views.own 2 rfl) (i - 1) (by omega) (by omega)) rfl ?_
        clear h a w; intro a w h
        refine wv h (r_elG h rfl K.u_S_uint8 rfl (Views.own 2 rfl) hxc) rfl ?_
        clear h a w; intro a w h
        refine wv h (r_move h rfl) rfl ?_
        clear h a w; intro a w h
        refine wl rfl (op_call h rfl K.go_delta_Apply (delta_Apply s _ x0.v v20 x0.p q _ (BytI.view 3 rfl x0 hx0m) (Views.own 0 rfl) (by omega) (by omega) h.2) rfl ?_)
        clear h a w; intro z35 a w hap h
        obtain ⟨v35, e35, out⟩ := z35
        simp only at hap h
        obtain ⟨ha1, ha2⟩ := hap
        have gout : ∀ all : List (List UInt8), (∀ p ∈ all, OkP p) → all.length ≤ 64 → st0 = (0, numN all.length ++ tailP none 0 all) → ∃ p, all[i]? = some p ∧ e35 = 0 ∧ out = p := by
          intro all h1 h2 h3
          obtain ⟨p, ch', hp, hp9, _, e3⟩ := gq all h1 h2 h3
          rcases e3 with e3 | ⟨_, _, bb, hb, e3⟩
          · omega
          · have e9 : x0.p = bb := by
              have e10 := congrArg (fun l : List (List UInt8) => l[i - 1]?) (z5 all h1 h2 h3).1
              simp only [List.getElem?_map, hx0, Option.map_some] at e10
              rw [List.getElem?_take_of_lt (by omega), hb] at e10
              exact Option.some.inj e10
            obtain ⟨q1, q2⟩ := ha2 p hp9 (by rw [e9]; exact e3)
            exact ⟨p, hp, q1, q2⟩
        refine wv h (r_move h rfl) rfl ?_
        clear h a w; intro a w h
        refine wv h (r_extractN h rfl rfl) rfl ?_
        clear h a w; intro a w h
        refine wv h (r_extractN h rfl rfl) rfl ?_
        clear h a w; intro a w h
        refine wv h (r_assign h rfl) rfl ?_
        clear h a w; intro a w h
        refine wv h (r_assign h rfl) rfl ?_
        clear h a w; intro a w h
        refine wnil (c_then ?_)
        refine c_seq ?_
        refine c_seq (c_region ?_)
        refine wv h (r_move h rfl) rfl ?_
        clear h a w; intro a w h
        refine wv h (r_bin h rfl rfl (B.neq_int)) rfl ?_
        clear h a w; intro a w h
        refine wnil (c_then ?_)
        refine c_condP (p := e35 ≠ 0) h rfl (by simp) (fun ht3 => ?_) (fun ht3 => ?_)
        ·
         as_aux_lemma =>
          refine c_seq (c_region ?_)
          refine wv h (r_move h rfl) rfl ?_
          clear h a w; intro a w h
          refine wv h (r_assign h rfl) rfl ?_
          clear h a w; intro a w h
          refine wv h (r_assign h rfl) rfl ?_
          clear h a w; intro a w h
          refine wnil (c_then ?_)
          refine c_ret ?_
          have e7 : e35 = 7 := by
            rcases ha1 with ha1 | ha1
            · exact ha1.1
            · exact absurd ha1.1 ht3
          replace h := (St.addNilM (size := 1) (cells := cellsS) ⟨h.1, satBytNil h.2⟩)
          exact ret2 h rfl rfl rfl ⟨(.slice none 0 0, e35, []), rfl, ((((((((((h.2.front 2 rfl).tail).front 2 rfl).tail).front 2 rfl).tail).front 2 rfl).tail).front 2 rfl).tail), ⟨.inl ⟨e7, rfl⟩, by simp, fun x hx => absurd hx (by simp), fun all h1 h2 h3 => by obtain ⟨_, _, e0, _⟩ := gout all h1 h2 h3; exact absurd e0 ht3⟩⟩
        ·
         have e0 : e35 = 0 := by omega
         have hol : out.length ≤ 900 := by
           rcases ha1 with ha1 | ha1
           · omega
           · exact ha1.2.2
         refine c_skip ?_
         refine c_then ?_
         refine c_region ?_
         refine wv h (r_move h rfl) rfl ?_
         clear h a w; intro a w h
         refine wv h (r_assign h rfl) rfl ?_
         clear h a w; intro a w h
         refine wnil ?_
         replace h := h.mem (fun q => (q.front 1 rfl).tail)
         exact ⟨(v35, out), h.keep [0, 4, 7, 11, 12], ⟨by show out.length ≤ _; omega, fun all h1 h2 h3 => by obtain ⟨p, hp, _, e⟩ := gout all h1 h2 h3; rw [hp, e]⟩⟩
      ·
       refine c_skip ?_
       exact ⟨(v20, q), h.keep [0, 4, 7, 11, 12], ⟨by show q.length ≤ _; omega, fun all h1 h2 h3 => by
         obtain ⟨p, ch', hp, _, _, e3⟩ := gq all h1 h2 h3
         rcases e3 with e3 | e3
         · rw [hp, e3.2]
         · exact absurd ⟨e3.1, e3.2.1⟩ ht2⟩⟩
     ·
      clear h a w; intro z a w hz h
      obtain ⟨pv, p⟩ := z
      obtain ⟨y1, y2⟩ := hz
      simp only at y1 y2 h
      refine c_seq ?_
      refine c_seq (c_region ?_)
      refine wv h (r_move h rfl) rfl ?_
      clear h a w; intro a w h
      refine wl rfl (op_call h rfl K.go_digit_Eye_Fault (eye_FaultI s _ b st3 _ 1 rfl h.2) rfl ?_)
      clear h a w; intro z43 a w hz43 h
      refine wv h (r_bin h rfl rfl (B.neq_int)) rfl ?_
      clear h a w; intro a w h
      refine wnil (c_then ?_)
      refine c_condP (p := st3.1 ≠ 0) h rfl (by simp) (fun ht4 => ?_) (fun ht4 => ?_)
      ·
       as_aux_lemma =>
        refine c_exit ?_
        refine e_then ?_
        refine e_up rfl ?_
        refine e_then ?_
        refine e_then ?_
        refine e_here ?_
        replace h := h.mem (fun q => (q.tail.front 2 rfl).front 2 rfl)
        exact ⟨(v4, xs, st3), h.keep [0, 4], ⟨by simp only; omega, z4, fun all h1 h2 h3 => by obtain ⟨_, _, _, _, e, _⟩ := gq all h1 h2 h3; rw [e] at ht4; exact absurd rfl ht4⟩⟩
      ·
       obtain ⟨A, cap, hpv, _⟩ := (Views.own 0 rfl : ViewsB (OwnB pv p :: _) pv p).shape h.2
       obtain ⟨x, hx⟩ : ∃ x : SlV, x = ⟨A, p.length, cap, p⟩ := ⟨_, rfl⟩
       have hxv : x.v = pv := by rw [hx, hpv]
       have hxp : x.p = p := by rw [hx]
       rw [← hxv, ← hxp] at h
       rw [← hxp] at y1 y2
       refine c_skip ?_
       refine c_then ?_
       refine c_region ?_
       refine wv h (r_move h rfl) rfl ?_
       clear h a w; intro a w h
       refine wv h (r_move h rfl) rfl ?_
       clear h a w; intro a w h
       refine wl rfl (op_buildO h K.u_S_S_uint8 K.sz_S_uint8 K.z_S_uint8 rfl rfl rfl rfl (by simp only [List.mem_cons, List.not_mem_nil, or_false, forall_eq_or_imp, forall_eq]; (repeat' apply And.intro) <;> rfl) rfl ?_)
       clear h a w; intro b47 a w h
       refine wl rfl (op_appendR1 (cells := cellsS) (u := x) h rfl rfl K.u_S_S_uint8 K.sz_S_uint8 K.z_S_uint8 rfl rfl 2 rfl (by omega) rfl ?_)
       clear h a w; intro v48 a w h
       simp only [List.set_cons_succ, List.set_cons_zero] at h
       refine wv h (r_assign h rfl) rfl ?_
       clear h a w; intro a w h
       refine wnil ?_
       refine b_normal ?_
       refine c_then ?_
       refine c_region ?_
       refine wv h (r_bin h rfl rfl (B.add_i64 (by omega) (by omega))) rfl ?_
       clear h a w; intro a w h
       refine wv h (r_move h rfl) rfl ?_
       clear h a w; intro a w h
       refine wnil ?_
       replace h := h.mem (fun q => ((satBytMore (x := x) (q.front 3 rfl)).front 2 rfl).front 2 rfl)
       refine ⟨(i + 1, v48, xs ++ [x], st3), h.keep [0, 4, 11, 12], ⟨by simp [z1], ht1, by simp only; omega, fun y hy => ?_, fun all h1 h2 h3 => ?_⟩, by simp only; omega⟩
       · rcases List.mem_append.1 hy with hy | hy
         · exact z4 y hy
         · simp only [List.mem_singleton] at hy; subst hy; exact y1
       · obtain ⟨_, ch', _, _, e, _⟩ := gq all h1 h2 h3
         refine ⟨?_, ch', e⟩
         simp only [List.map_append, List.map_cons, List.map_nil]
         rw [(z5 all h1 h2 h3).1, List.take_add_one, y2 all h1 h2 h3]; rfl
    ·
     refine c_exit ?_
     refine e_then ?_
     refine e_then ?_
     refine e_here ?_
     replace h := h.mem (fun q => (q.front 2 rfl).front 2 rfl)
     refine ⟨(v4, xs, st), h.keep [0, 4], ⟨by simp only; omega, z4, fun all h1 h2 h3 => ?_⟩⟩
     obtain ⟨e1, ch, e2⟩ := z5 all h1 h2 h3
     have hNa := (hgh all h1 h2 h3).1
     simp only
     rw [e1, e2, List.take_of_length_le (by omega), List.drop_eq_nil_of_le (by omega)]
     exact ⟨rfl, rfl⟩
  ·
   clear h a w; intro z a w hz h
   obtain ⟨v4, xs, st⟩ := z
   obtain ⟨z1, z2, z3⟩ := hz
   simp only at z1 z2 z3 h
   refine c_seq ?_
   refine c_seq (c_region ?_)
   refine wv h (r_move h rfl) rfl ?_
   clear h a w; intro a w h
   refine wl rfl (op_call h rfl K.go_digit_Eye_End (eye_EndI s _ b st _ 2 rfl h.2) rfl ?_)
   clear h a w; intro z51 a w hz51 h
   refine wv h (r_bin h rfl rfl (B.neq_int)) rfl ?_
   clear h a w; intro a w h
   refine wnil (c_then ?_)
   refine c_condP (p := eyeEnd st ≠ 0) h rfl (by simp) (fun ht5 => ?_) (fun ht5 => ?_)
   ·
    as_aux_lemma =>
     refine c_seq (c_region ?_)
     refine wv h (r_assign h rfl) rfl ?_
     clear h a w; intro a w h
     refine wv h (r_assign h rfl) rfl ?_
     clear h a w; intro a w h
     refine wnil (c_then ?_)
     refine c_ret ?_
     replace h := (St.addNilM (size := 1) (cells := cellsS) ⟨h.1, satBytNil h.2⟩)
     exact ret2 h rfl rfl rfl ⟨(.slice none 0 0, 7, []), rfl, ((((((h.2.front 2 rfl).tail).front 2 rfl).tail).front 2 rfl).tail), ⟨.inl ⟨rfl, rfl⟩, by simp, fun x hx => absurd hx (by simp), fun all h1 h2 h3 => by rw [(z3 all h1 h2 h3).2] at ht5; exact absurd rfl ht5⟩⟩
   ·
    refine c_skip ?_
    refine c_then ?_
    refine c_seq (c_region ?_)
    refine wv h (r_move h rfl) rfl ?_
    clear h a w; intro a w h
    refine wv h (r_assign h rfl) rfl ?_
    clear h a w; intro a w h
    refine wv h (r_assign h rfl) rfl ?_
    clear h a w; intro a w h
    refine wnil (c_then ?_)
    refine c_ret ?_
    exact ret2 h rfl rfl rfl ⟨(v4, 0, xs), rfl, ((h.2.front 2 rfl).tail), ⟨.inr rfl, z1, z2, fun all h1 h2 h3 => ⟨rfl, (z3 all h1 h2 h3).1⟩⟩⟩
end Go.Proofs.K

/- Packs: Decode. -/
namespace Go.Sl
def sumOk (p : List UInt8) : Prop := fourN (crcN (p.take (p.length - 4))) = p.drop (p.length - 4)
structure DeR (p : List UInt8) (e : Int) (xs : List SlV) : Prop where
  kind : ((e = 7 ∨ e = 8) ∧ xs = []) ∨ (e = 0 ∧ encP (bytesI (srtd xs)) = some p)
  short : p.length < 4 → e = 7
  sum : 4 ≤ p.length → (e = 8 ↔ ¬ sumOk p)
  back : ∀ all : List (List UInt8), (∀ q ∈ all, OkP q) → all.length ≤ 64 → p = sealP (headP all.length ++ tailP none 0 all) → (∀ ys : List SlV, ys.map SlV.p = all → bytesI (srtd ys) = all) → e = 0 ∧ xs.map SlV.p = all
  bnd : xs.length ≤ 64 ∧ ∀ x ∈ xs, x.p.length ≤ p.length + 900
theorem seal_back (b : List UInt8) : (sealP b).length = b.length + 4 ∧ (sealP b).take ((sealP b).length - 4) = b ∧ sumOk (sealP b) := by
  have h4 : (fourN (crcN b)).length = 4 := rfl
  have hl : (sealP b).length = b.length + 4 := by rw [sealP, List.length_append, h4]
  have ht : (sealP b).take ((sealP b).length - 4) = b := by rw [hl, Nat.add_sub_cancel, sealP, List.take_left' rfl]
  have hd : (sealP b).drop ((sealP b).length - 4) = fourN (crcN b) := by rw [hl, Nat.add_sub_cancel, sealP, List.drop_left' rfl]
  exact ⟨hl, ht, by rw [sumOk, ht, hd]⟩
theorem encP_tail {ps : List (List UInt8)} (h1 : ∀ p ∈ ps, OkP p) (h2 : ps.length ≤ 64) : encP ps = some (sealP (headP ps.length ++ tailP none 0 ps)) := by
  rw [encP, if_neg (by omega), encG_some _ _ _ _ h1]; rfl
end Go.Sl
namespace Go.Proofs.K
open Go.Sl
attribute [local irreducible] Go.Sl.Own Go.Sl.Blk Go.Sl.Sep Go.Sl.Ex Go.Sl.Fact
theorem pack_Decode (s w : World) (v : Value) (p : List UInt8) (F : List HItem) (hT : HasParts F) (hF : HasFirst F) (hC : HasLines F) (hv : ViewsB F v p) (hl : p.length ≤ 80000) (hs : Sat s w F) :
    Calls P n_pack_Decode #[v] w (Ret s (fun z : Value × Int × List SlV => .tuple #[z.1, .int .i64 z.2.1]) (fun z => OwnM 1 cellsS z.1 z.2.2 :: BytI z.2.2 :: F) (fun z => DeR p z.2.1 z.2.2)) := by
  refine enter K.fn_pack_Decode rfl K.nt_pack_Decode rfl hs ?_
  clear hs w; intro a w h
  refine c_seq (c_region ?_)
  refine wv h (r_assign h rfl) rfl ?_
  clear h a w; intro a w h
  refine wv h (r_assign h rfl) rfl ?_
  clear h a w; intro a w h
  refine wnil (c_then ?_)
  refine c_seq (c_region ?_)
  refine wv h (r_move h rfl) rfl ?_
  clear h a w; intro a w h
  refine wv h (r_lenB h rfl K.u_S_uint8 (by assumption)) rfl ?_
  clear h a w; intro a w h
  refine wv h (r_bin h rfl rfl (B.sub_i64 (by omega) (by omega))) rfl ?_
  clear h a w; intro a w h
  refine wv h (r_assign h rfl) rfl ?_
  clear h a w; intro a w h
  refine wnil (c_then ?_)
  refine c_seq ?_
  refine c_block ?_
  refine c_seq (c_region ?_)
  refine wv h (r_move h rfl) rfl ?_
  clear h a w; intro a w h
  refine wv h (r_bin h rfl rfl (B.lss_int)) rfl ?_
  clear h a w; intro a w h
  refine wv h (r_assign h rfl) rfl ?_
  clear h a w; intro a w h
  refine wnil (c_then ?_)
  refine c_condP (p := p.length < 4) h rfl (by simp; omega) (fun ht1 => ?_) (fun ht1 => ?_)
  ·
   as_aux_lemma =>
    refine c_seq (c_region ?_)
    refine wv h (r_assign h rfl) rfl ?_
    clear h a w; intro a w h
    refine wv h (r_assign h rfl) rfl ?_
    clear h a w; intro a w h
    refine wnil (c_then ?_)
    refine c_ret ?_
    replace h := (St.addNilM (size := 1) (cells := cellsS) ⟨h.1, satBytNil h.2⟩)
    exact ret2 h rfl rfl rfl ⟨(.slice none 0 0, 7, []), rfl, h.2, ⟨.inl ⟨.inl rfl, rfl⟩, fun _ => rfl, fun q => by omega, fun all _ _ e _ => by have := (seal_back (headP all.length ++ tailP none 0 all)).1; rw [← e] at this; omega, by simp, fun x hx => absurd hx (by simp)⟩⟩
  ·
   obtain ⟨n, hn⟩ : ∃ n, n = p.length - 4 := ⟨_, rfl⟩
   rw [show ((p.length : Int) - 4) = (n : Int) by omega] at h
   have hvn : ViewsB F (subV 1 v 0 n) (p.take n) := by have := hv.sub (i := 0) (j := n) (by omega) (by omega); simpa using this
   have hvd : ViewsB F (subV 1 v n p.length) (p.drop n) := by
     have := hv.sub (i := n) (j := p.length) (by omega) (by omega)
     rwa [List.take_of_length_le (by simp)] at this
   have hln : (p.take n).length = n := by rw [List.length_take]; omega
   obtain ⟨bd, hbd⟩ : ∃ b, b = p.take n := ⟨_, rfl⟩
   have hb32 : UInt32.ofInt ((crcN bd).toNat : Int) = crcN bd := by rw [← UInt32.toNat_inj, ofInt32]; have := (crcN bd).toNat_lt; omega
   rw [← hbd] at hvn hln
   refine c_seq (c_drawn 13 K.mixed rfl h ?_)
   clear h a w; intro a w h
   have hD : Paid s w [] := Paid.nil
   refine d_take0 (listed' := #[true, false, false, false, false, false, false, false, false, false, false, false, false]) h hD 0 (by as_aux_lemma => kernel_rfl) rfl (by as_aux_lemma => kernel_rfl) (by as_aux_lemma => kernel_rfl) (by as_aux_lemma => kernel_rfl) (fun _ _ _ _ hh => hh) (fun w h => by exact r_move h rfl) rfl ?_
   clear hD h a w; intro a w h hD
   refine d_take0 (listed' := #[true, true, false, false, false, false, false, false, false, false, false, false, false]) h hD 1 (by as_aux_lemma => kernel_rfl) rfl (by as_aux_lemma => kernel_rfl) (by as_aux_lemma => kernel_rfl) (by as_aux_lemma => kernel_rfl) (fun _ _ _ _ hh => hh) (fun w h => by exact r_move h rfl) rfl ?_
   clear hD h a w; intro a w h hD
   refine d_take (listed' := #[true, true, true, false, false, false, false, false, false, false, false, false, false]) h hD 2 (F) (by as_aux_lemma => kernel_rfl) rfl (by as_aux_lemma => kernel_rfl) (by as_aux_lemma => kernel_rfl) (by as_aux_lemma => kernel_rfl) (fun _ _ _ _ hh => hh) (by exact h.2) (fun w hw => by exact r_sliceB /- Views -/ ⟨h.1, hw⟩ rfl K.u_S_uint8 K.sz_uint8 hv 0 n rfl ⟨_, rfl⟩ (by omega) (by omega)) rfl ?_
   clear hD h a w; intro a w h hD
   refine d_take0 (listed' := #[true, true, true, false, false, false, false, true, false, false, false, false, false]) h hD 7 (by as_aux_lemma => kernel_rfl) rfl (by as_aux_lemma => kernel_rfl) (by as_aux_lemma => kernel_rfl) (by as_aux_lemma => kernel_rfl) (fun _ _ _ _ hh => hh) (fun w h => by exact r_move h rfl) rfl ?_
   clear hD h a w; intro a w h hD
   refine d_take0 (listed' := #[true, true, true, false, false, false, false, true, true, false, false, false, false]) h hD 8 (by as_aux_lemma => kernel_rfl) rfl (by as_aux_lemma => kernel_rfl) (by as_aux_lemma => kernel_rfl) (by as_aux_lemma => kernel_rfl) (fun _ _ _ _ hh => hh) (fun w h => by exact r_move h rfl) rfl ?_
   clear hD h a w; intro a w h hD
   refine d_take (listed' := #[true, true, true, false, false, false, false, true, true, true, false, false, false]) h hD 9 (F) (by as_aux_lemma => kernel_rfl) rfl (by as_aux_lemma => kernel_rfl) (by as_aux_lemma => kernel_rfl) (by as_aux_lemma => kernel_rfl) (fun _ _ _ _ hh => hh) (by exact h.2) (fun w hw => by exact r_sliceB /- Views -/ ⟨h.1, hw⟩ rfl K.u_S_uint8 K.sz_uint8 hv n p.length ⟨_, rfl⟩ rfl (by omega) (Nat.le_refl _)) rfl ?_
   clear hD h a w; intro a w h hD
   refine d_take (listed' := #[true, true, true, false, false, false, false, true, true, true, true, false, false]) h hD 10 _ (by as_aux_lemma => kernel_rfl) rfl (by as_aux_lemma => kernel_rfl) (by as_aux_lemma => kernel_rfl) (by as_aux_lemma => kernel_rfl) (fun _ _ _ _ hh => hh) h.2 (fun w hw => by exact r_b2sb ⟨h.1, hw⟩ rfl K.u_S_uint8 K.u_uint8 K.u_string (by assumption)) rfl ?_
   clear hD h a w; intro a w h hD
   refine d_only (listed' := #[true, true, true, true, false, false, false, true, true, true, true, false, false]) 3 [true, true, false] (by as_aux_lemma => kernel_rfl) rfl rfl (by as_aux_lemma => kernel_rfl) (by as_aux_lemma => kernel_rfl) ?_
   refine op_call h rfl K.go_check_Of (check_of s _ (subV 1 v 0 n) bd _ hC hvn h.2) rfl ?_
   clear hD h a w; intro x a w hx h
   (simp only [List.set_cons_zero, List.set_cons_succ] at h)
   refine d_pay (Paid.cons (by exact h.2) (Paid.cons (by exact h.2) (Paid.nil))) (fun hD => ?_)
   refine d_take0 (listed' := #[true, true, true, true, true, false, false, true, true, true, true, false, false]) h hD 4 (by as_aux_lemma => kernel_rfl) rfl (by as_aux_lemma => kernel_rfl) (by as_aux_lemma => kernel_rfl) (by as_aux_lemma => kernel_rfl) (fun _ _ _ _ hh => hh) (fun w h => by exact r_conv h rfl K.u_uint32 K.u_int (C.i64_u32) ) rfl ?_
   clear hD h a w; intro a w h hD
   refine d_only (listed' := #[true, true, true, true, true, true, false, true, true, true, true, false, false]) 5 [true, true] (by as_aux_lemma => kernel_rfl) rfl rfl (by as_aux_lemma => kernel_rfl) (by as_aux_lemma => kernel_rfl) ?_
   refine op_call h rfl K.go_check_Four (check_four s _ ((crcN bd).toNat : Int) _ h.2) rfl ?_
   clear hD h a w; intro v22 a w hz22 h
   rw [hb32] at h
   refine d_pay (Paid.cons (by exact h.2.drop 1) (Paid.cons (by exact h.2.drop 1) (Paid.nil))) (fun hD => ?_)
   refine d_take (listed' := #[true, true, true, true, true, true, true, true, true, true, true, false, false]) h hD 6 _ (by as_aux_lemma => kernel_rfl) rfl (by as_aux_lemma => kernel_rfl) (by as_aux_lemma => kernel_rfl) (by as_aux_lemma => kernel_rfl) (fun _ _ _ _ hh => hh) h.2 (fun w hw => by exact r_b2sb ⟨h.1, hw⟩ rfl K.u_S_uint8 K.u_uint8 K.u_string (by exact ViewsB.own 0 rfl)) rfl ?_
   clear hD h a w; intro a w h hD
   refine d_take0 (listed' := #[true, true, true, true, true, true, true, true, true, true, true, true, false]) h hD 11 (by as_aux_lemma => kernel_rfl) rfl (by as_aux_lemma => kernel_rfl) (by as_aux_lemma => kernel_rfl) (by as_aux_lemma => kernel_rfl) (fun _ _ _ _ hh => hh) (fun w h => by exact r_strne h rfl rfl) rfl ?_
   clear hD h a w; intro a w h hD
   refine d_take0 (listed' := #[true, true, true, true, true, true, true, true, true, true, true, true, true]) h hD 12 (by as_aux_lemma => kernel_rfl) rfl (by as_aux_lemma => kernel_rfl) (by as_aux_lemma => kernel_rfl) (by as_aux_lemma => kernel_rfl) (fun _ _ _ _ hh => hh) (fun w h => by exact r_assign h rfl) rfl ?_
   clear hD h a w; intro a w h hD
   refine d_done (by kernel_rfl) ?_
   clear hD
   refine c_then ?_
   refine c_condP (p := fourN (crcN bd) ≠ p.drop n) h rfl (by simp) (fun ht2 => ?_) (fun ht2 => ?_)
   ·
    as_aux_lemma =>
     refine c_seq (c_region ?_)
     refine wv h (r_assign h rfl) rfl ?_
     clear h a w; intro a w h
     refine wv h (r_assign h rfl) rfl ?_
     clear h a w; intro a w h
     refine wnil (c_then ?_)
     refine c_ret ?_
     replace h := (St.addNilM (size := 1) (cells := cellsS) ⟨h.1, satBytNil h.2.tail⟩)
     have hns : ¬ sumOk p := by rw [sumOk, ← hn, ← hbd]; exact ht2
     exact ret2 h rfl rfl rfl ⟨(.slice none 0 0, 8, []), rfl, h.2, ⟨.inl ⟨.inr rfl, rfl⟩, fun q => by omega, fun _ => ⟨fun _ => hns, fun _ => rfl⟩, fun all _ _ e _ => by rw [e] at hns; exact absurd (seal_back _).2.2 hns, by simp, fun x hx => absurd hx (by simp)⟩⟩
   ·
    have hso : sumOk p := by
      rw [sumOk, ← hn, ← hbd]
      exact Classical.not_not.1 ht2
    have hpe : p = sealP bd := by
      rw [sealP]
      conv => lhs; rw [← List.take_append_drop n p]
      rw [← hbd, Classical.not_not.1 ht2]
    replace h := h.mem (fun q => q.tail)
    refine c_skip ?_
    refine b_normal ?_
    refine c_then ?_
    refine c_seq (c_region ?_)
    refine wv h (r_move h rfl) rfl ?_
    clear h a w; intro a w h
    refine wv h (r_move h rfl) rfl ?_
    clear h a w; intro a w h
    refine wv h (r_sliceB h rfl K.u_S_uint8 K.sz_uint8 hv 0 n rfl ⟨_, rfl⟩ (by omega) (by omega)) rfl ?_
    clear h a w; intro a w h
    refine wl rfl (op_call h rfl K.go_digit_NewEye (eye_New s _ (subV 1 v 0 n) bd _ hvn (by omega) h.2) rfl ?_)
    clear h a w; intro be a w hz32 h
    refine wv h (r_assign h rfl) rfl ?_
    clear h a w; intro a w h
    refine wnil (c_then ?_)
    refine c_seq ?_
    refine c_seq (c_region ?_)
    refine wv h (r_move h rfl) rfl ?_
    clear h a w; intro a w h
    refine wl rfl (op_call h rfl K.go_digit_Eye_Raw (eye_Raw s _ be (0, bd) 2 _ 0 rfl (by simp only; omega) h.2) rfl ?_)
    clear h a w; intro v34 a w hz34 h
    (simp only [List.set_cons_zero, List.set_cons_succ] at h)
    obtain ⟨hr1, hr2⟩ := eyeRaw_len2 (0, bd) 2
    obtain ⟨q, hq⟩ : ∃ q, q = (eyeRaw (0, bd) 2).1 := ⟨_, rfl⟩
    obtain ⟨st, hst⟩ : ∃ q, q = (eyeRaw (0, bd) 2).2 := ⟨_, rfl⟩
    rw [← hq, ← hst] at h
    rw [← hst] at hr2
    simp only at hr2
    have hback : ∀ all : List (List UInt8), p = sealP (headP all.length ++ tailP none 0 all) → q = [80, 49] ∧ st = (0, numN all.length ++ tailP none 0 all) := by
      intro all e
      have eb : bd = [80, 49] ++ (numN all.length ++ tailP none 0 all) := by
        have := congrArg (fun l : List UInt8 => l.take (l.length - 4)) e
        simp only [(seal_back _).2.1, ← hn, ← hbd] at this
        rw [this, headP, List.append_assoc]
      have e6 := eyeRaw_enc [80, 49] (numN all.length ++ tailP none 0 all) 2 rfl
      rw [← eb] at e6
      rw [hq, hst, e6]
      exact ⟨rfl, rfl⟩
    refine wv h (r_b2sb h rfl K.u_S_uint8 K.u_uint8 K.u_string (by exact ViewsB.own 0 rfl)) rfl ?_
    clear h a w; intro a w h
    refine wv h (r_strne h rfl rfl) rfl ?_
    clear h a w; intro a w h
    refine wnil (c_then ?_)
    refine c_condP (p := q ≠ [80, 49]) h rfl (by simp) (fun ht3 => ?_) (fun ht3 => ?_)
    ·
     as_aux_lemma =>
      refine c_seq (c_region ?_)
      refine wv h (r_assign h rfl) rfl ?_
      clear h a w; intro a w h
      refine wv h (r_assign h rfl) rfl ?_
      clear h a w; intro a w h
      refine wnil (c_then ?_)
      refine c_ret ?_
      replace h := (St.addNilM (size := 1) (cells := cellsS) ⟨h.1, satBytNil h.2.tail.tail⟩)
      exact ret2 h rfl rfl rfl ⟨(.slice none 0 0, 7, []), rfl, h.2, ⟨.inl ⟨.inl rfl, rfl⟩, fun _ => rfl, fun _ => ⟨fun q => (by cases q), fun q => absurd hso q⟩, fun all _ _ e _ => absurd (hback all e).1 ht3, by simp, fun x hx => absurd hx (by simp)⟩⟩
    ·
     refine c_skip ?_
     refine c_then ?_
     replace h := h.mem (fun q => q.tail)
     refine c_seq (c_region ?_)
     refine wv h (r_move h rfl) rfl ?_
     clear h a w; intro a w h
     refine wl rfl (op_call h rfl K.go_pack_read (pack_read s _ be st _ (by omega) h.2) rfl ?_)
     clear h a w; intro z39 a w hrd h
     obtain ⟨v6, e7, xs⟩ := z39
     simp only at hrd h
     obtain ⟨rd1, rd2, rd3, rd4⟩ := hrd
     refine wv h (r_move h rfl) rfl ?_
     clear h a w; intro a w h
     refine wv h (r_extractN h rfl rfl) rfl ?_
     clear h a w; intro a w h
     refine wv h (r_extractN h rfl rfl) rfl ?_
     clear h a w; intro a w h
     refine wv h (r_assign h rfl) rfl ?_
     clear h a w; intro a w h
     refine wv h (r_assign h rfl) rfl ?_
     clear h a w; intro a w h
     refine wnil (c_then ?_)
     refine c_seq ?_
     refine c_seq (c_region ?_)
     refine wv h (r_move h rfl) rfl ?_
     clear h a w; intro a w h
     refine wv h (r_bin h rfl rfl (B.neq_int)) rfl ?_
     clear h a w; intro a w h
     refine wnil (c_then ?_)
     refine c_condP (p := e7 ≠ 0) h rfl (by simp) (fun ht4 => ?_) (fun ht4 => ?_)
     ·
      as_aux_lemma =>
       refine c_seq (c_region ?_)
       refine wv h (r_move h rfl) rfl ?_
       clear h a w; intro a w h
       refine wv h (r_assign h rfl) rfl ?_
       clear h a w; intro a w h
       refine wv h (r_assign h rfl) rfl ?_
       clear h a w; intro a w h
       refine wnil (c_then ?_)
       refine c_ret ?_
       have ee : e7 = 7 := by
         rcases rd1 with rd1 | rd1
         · exact rd1.1
         · exact absurd rd1 ht4
       replace h := (St.addNilM (size := 1) (cells := cellsS) ⟨h.1, satBytNil h.2.tail.tail⟩)
       exact ret2 h rfl rfl rfl ⟨(.slice none 0 0, e7, []), rfl, h.2, ⟨.inl ⟨.inl ee, rfl⟩, fun _ => ee, fun _ => ⟨fun q => (by rw [ee] at q; cases q), fun q => absurd hso q⟩, fun all h1 h2 e _ => absurd (rd4 all h1 h2 (hback all e).2).1 ht4, by simp, fun x hx => absurd hx (by simp)⟩⟩
     ·
      have e0 : e7 = 0 := by omega
      refine c_skip ?_
      refine c_then ?_
      refine c_seq ?_
      refine c_seq (c_region ?_)
      refine wv h (r_move h rfl) rfl ?_
      clear h a w; intro a w h
      refine wl rfl (op_call h rfl K.go_pack_Encode (pack_Encode s _ v6 xs _ ((hT.cons _).cons _) ((hF.cons _).cons _) ((hC.cons _).cons _) (Views.own 0 rfl) (fun x hx => ⟨BytI.view 1 rfl x hx, by have := rd3 x hx; omega⟩) (by omega) h.2) rfl ?_)
      clear h a w; intro v47 a w hz47 h
      obtain ⟨en, hen⟩ : ∃ en, en = encP (bytesI (srtd xs)) := ⟨_, rfl⟩
      rw [← hen] at h
      refine wv h (r_move h rfl) rfl ?_
      clear h a w; intro a w h
      refine wv h (r_extractN h rfl rfl) rfl ?_
      clear h a w; intro a w h
      refine wv h (r_extractN h rfl rfl) rfl ?_
      clear h a w; intro a w h
      refine wv h (r_assign h rfl) rfl ?_
      clear h a w; intro a w h
      refine wv h (r_assign h rfl) rfl ?_
      clear h a w; intro a w h
      refine wnil (c_then ?_)
      refine c_seq (c_region ?_)
      refine wv h (r_move h rfl) rfl ?_
      clear h a w; intro a w h
      refine wv h (r_bin h rfl rfl (B.neq_int)) rfl ?_
      clear h a w; intro a w h
      refine wv h (r_move h rfl) rfl ?_
      clear h a w; intro a w h
      refine wvG h (by exact .f rfl) (fun hg => by (have hg2 := hg; (simp only [Bool.and_eq_true, Bool.or_eq_true, Bool.not_eq_true', decide_eq_true_eq, decide_eq_false_iff_not] at hg2)); exact r_move h rfl) rfl ?_
      clear h a w; intro a w h
      refine wvG h (by exact .f rfl) (fun hg => by (simp only [↓gval_on hg, ↓gval_and hg] at h); (have hg2 := hg; (simp only [Bool.and_eq_true, Bool.or_eq_true, Bool.not_eq_true', decide_eq_true_eq, decide_eq_false_iff_not] at hg2)); exact r_b2sb h rfl K.u_S_uint8 K.u_uint8 K.u_string (by exact ViewsB.own 0 rfl)) rfl ?_
      clear h a w; intro a w h
      refine wvG h (by exact .f rfl) (fun hg => by (simp only [↓gval_on hg, ↓gval_and hg] at h); (have hg2 := hg; (simp only [Bool.and_eq_true, Bool.or_eq_true, Bool.not_eq_true', decide_eq_true_eq, decide_eq_false_iff_not] at hg2)); exact r_move h rfl) rfl ?_
      clear h a w; intro a w h
      refine wvG h (by exact .f rfl) (fun hg => by (simp only [↓gval_on hg, ↓gval_and hg] at h); (have hg2 := hg; (simp only [Bool.and_eq_true, Bool.or_eq_true, Bool.not_eq_true', decide_eq_true_eq, decide_eq_false_iff_not] at hg2)); exact r_b2sb h rfl K.u_S_uint8 K.u_uint8 K.u_string (by exact ViewsB.of_drop 3 (by assumption))) rfl ?_
      clear h a w; intro a w h
      refine wvG h (by exact .f rfl) (fun hg => by (simp only [↓gval_on hg, ↓gval_and hg] at h); (have hg2 := hg; (simp only [Bool.and_eq_true, Bool.or_eq_true, Bool.not_eq_true', decide_eq_true_eq, decide_eq_false_iff_not] at hg2)); exact r_strne h rfl rfl) rfl ?_
      clear h a w; intro a w h
      refine wv h (r_pickO h rfl rfl rfl) rfl ?_
      clear h a w; intro a w h
      refine wnil (c_then ?_)
      refine c_condP (p := en ≠ some p) h rfl (by cases en <;> simp) (fun ht5 => ?_) (fun ht5 => ?_)
      ·
       have hbk : ∀ all : List (List UInt8), (∀ q ∈ all, OkP q) → all.length ≤ 64 → p = sealP (headP all.length ++ tailP none 0 all) → (∀ ys : List SlV, ys.map SlV.p = all → bytesI (srtd ys) = all) → False := by
         intro all h1 h2 e h4
         have e2 := (rd4 all h1 h2 (hback all e).2).2
         rw [hen, h4 xs e2, encP_tail h1 h2, ← e] at ht5
         exact ht5 rfl
       as_aux_lemma =>
        refine c_seq (c_region ?_)
        refine wv h (r_assign h rfl) rfl ?_
        clear h a w; intro a w h
        refine wv h (r_assign h rfl) rfl ?_
        clear h a w; intro a w h
        refine wnil (c_then ?_)
        refine c_ret ?_
        replace h := (St.addNilM (size := 1) (cells := cellsS) ⟨h.1, satBytNil h.2.tail.tail.tail⟩)
        exact ret2 h rfl rfl rfl ⟨(.slice none 0 0, 7, []), rfl, h.2, ⟨.inl ⟨.inl rfl, rfl⟩, fun _ => rfl, fun _ => ⟨fun q => (by cases q), fun q => absurd hso q⟩, fun all h1 h2 e h4 => (hbk all h1 h2 e h4).elim, by simp, fun x hx => absurd hx (by simp)⟩⟩
      ·
       refine c_skip ?_
       refine c_then ?_
       refine c_seq (c_region ?_)
       refine wv h (r_move h rfl) rfl ?_
       clear h a w; intro a w h
       refine wv h (r_assign h rfl) rfl ?_
       clear h a w; intro a w h
       refine wv h (r_assign h rfl) rfl ?_
       clear h a w; intro a w h
       refine wnil (c_then ?_)
       refine c_ret ?_
       have he5 : en = some p := Classical.not_not.1 ht5
       exact ret2 h rfl rfl rfl ⟨(v6, 0, xs), rfl, h.2.tail, ⟨.inr ⟨rfl, by rw [← hen]; exact he5⟩, fun q => by omega, fun _ => ⟨fun q => (by cases q), fun q => absurd hso q⟩, fun all h1 h2 e _ => ⟨rfl, (rd4 all h1 h2 (hback all e).2).2⟩, rd2, fun x hx => by have := rd3 x hx; omega⟩⟩
end Go.Proofs.K

/- The laws of layer 16, walked: awake, PackOne. -/
namespace Go.Sl
theorem srtd_one (x : SlV) : bytesI (srtd [x]) = [x.p] := rfl
theorem numN0 : numN 0 = [128] := by decide +kernel
theorem numN1 : numN 1 = [129] := by decide +kernel
end Go.Sl
namespace Go.Proofs.K
open Go.Sl
attribute [local irreducible] Go.Sl.Own Go.Sl.Blk Go.Sl.Sep Go.Sl.Ex Go.Sl.Fact
theorem law16_awake (s w : World) (F : List HItem) (hT : HasParts F) (hF : HasFirst F) (hC : HasLines F) (hs : Sat s w F) : Calls P n_law16_awake #[] w (Ret s (fun _ : Unit => .bool true) (fun _ => F) (fun _ => True)) := by
  refine enter K.fn_law16_awake rfl K.nt_law16_awake rfl hs ?_
  clear hs w; intro a w h
  refine c_seq (c_region ?_)
  refine wv h (r_assign h rfl) rfl ?_
  clear h a w; intro a w h
  refine wnil (c_then ?_)
  refine c_seq (c_region ?_)
  refine wl rfl (op_call h rfl K.go_pack_Encode (pack_Encode s _ (.slice none 0 0) [] _ hT hF hC (Views.nil _ 1) (fun x hx => absurd hx (by simp)) (by simp) h.2) rfl ?_)
  clear h a w; intro v6 a w hz6 h
  (simp only [List.set_cons_zero, List.set_cons_succ] at h)
  obtain ⟨pb, hpb⟩ : ∃ pb, pb = sealP (headP 0 ++ tailP none 0 []) := ⟨_, rfl⟩
  have he : encP (bytesI (srtd [])) = some pb := by rw [hpb]; exact encP_tail (ps := []) (fun p hp => absurd hp (by simp)) (by simp)
  have hpl : pb.length = 7 := by rw [hpb, (seal_back _).1]; simp [headP, tailP, numN0]
  have hp3 : pb.take 3 = [80, 49, 128] := by rw [hpb]; simp [sealP, headP, tailP, numN0]
  rw [he] at h
  simp only [Option.isSome_some, Option.getD_some, if_true] at h
  refine wv h (r_move h rfl) rfl ?_
  clear h a w; intro a w h
  refine wv h (r_extractN h rfl rfl) rfl ?_
  clear h a w; intro a w h
  refine wv h (r_extractN h rfl rfl) rfl ?_
  clear h a w; intro a w h
  refine wv h (r_assign h rfl) rfl ?_
  clear h a w; intro a w h
  refine wv h (r_assign h rfl) rfl ?_
  clear h a w; intro a w h
  refine wnil (c_then ?_)
  refine c_seq (c_region ?_)
  refine wv h (r_move h rfl) rfl ?_
  clear h a w; intro a w h
  refine wl rfl (op_call h rfl K.go_pack_Decode (pack_Decode s _ v6 pb _ (hT.cons _) (hF.cons _) (hC.cons _) (Views.own 0 rfl) (by omega) h.2) rfl ?_)
  clear h a w; intro z11 a w hde h
  obtain ⟨v11, e11, xs⟩ := z11
  simp only at hde h
  obtain ⟨d1, d2⟩ := hde.back [] (fun q hq => absurd hq (by simp)) (by simp) hpb (fun ys hy => by rw [List.map_eq_nil_iff] at hy; subst hy; rfl)
  have hxs : xs = [] := by simpa using d2
  subst hxs
  rw [d1] at h
  refine wv h (r_move h rfl) rfl ?_
  clear h a w; intro a w h
  refine wv h (r_extractN h rfl rfl) rfl ?_
  clear h a w; intro a w h
  refine wv h (r_extractN h rfl rfl) rfl ?_
  clear h a w; intro a w h
  refine wv h (r_assign h rfl) rfl ?_
  clear h a w; intro a w h
  refine wv h (r_assign h rfl) rfl ?_
  clear h a w; intro a w h
  refine wnil (c_then ?_)
  refine c_seq (c_region ?_)
  refine wv h (r_move h rfl) rfl ?_
  clear h a w; intro a w h
  refine wv h (r_bin h rfl rfl (B.eql_int)) rfl ?_
  clear h a w; intro a w h
  refine wv h (r_move h rfl) rfl ?_
  clear h a w; intro a w h
  refine wvG h (by exact .t rfl) (fun hg => by (simp only [↓gval_on hg, ↓gval_and hg] at h); (have hg2 := hg; (simp only [Bool.and_eq_true, Bool.or_eq_true, Bool.not_eq_true', decide_eq_true_eq, decide_eq_false_iff_not] at hg2)); exact r_move h rfl) rfl ?_
  clear h a w; intro a w h
  refine wvG h (by exact .t rfl) (fun hg => by (simp only [↓gval_on hg, ↓gval_and hg] at h); (have hg2 := hg; (simp only [Bool.and_eq_true, Bool.or_eq_true, Bool.not_eq_true', decide_eq_true_eq, decide_eq_false_iff_not] at hg2)); exact r_bin h rfl rfl (B.eql_int)) rfl ?_
  clear h a w; intro a w h
  refine wv h (r_pickA h rfl rfl rfl) rfl ?_
  clear h a w; intro a w h
  refine wv h (r_move h rfl) rfl ?_
  clear h a w; intro a w h
  refine wvG h (by exact .t rfl) (fun hg => by (simp only [↓gval_on hg, ↓gval_and hg] at h); (have hg2 := hg; (simp only [Bool.and_eq_true, Bool.or_eq_true, Bool.not_eq_true', decide_eq_true_eq, decide_eq_false_iff_not] at hg2)); exact r_move h rfl) rfl ?_
  clear h a w; intro a w h
  refine wvG h (by exact .t rfl) (fun hg => by (simp only [↓gval_on hg, ↓gval_and hg] at h); (have hg2 := hg; (simp only [Bool.and_eq_true, Bool.or_eq_true, Bool.not_eq_true', decide_eq_true_eq, decide_eq_false_iff_not] at hg2)); exact r_lenB h rfl K.u_S_uint8 (by exact ViewsB.own 2 rfl)) rfl ?_
  clear h a w; intro a w h
  refine wvG h (by exact .t rfl) (fun hg => by (simp only [↓gval_on hg, ↓gval_and hg] at h); (have hg2 := hg; (simp only [Bool.and_eq_true, Bool.or_eq_true, Bool.not_eq_true', decide_eq_true_eq, decide_eq_false_iff_not] at hg2)); exact r_bin h rfl rfl (B.eql_int)) rfl ?_
  clear h a w; intro a w h
  refine wv h (r_pickA h rfl rfl rfl) rfl ?_
  clear h a w; intro a w h
  refine wv h (r_move h rfl) rfl ?_
  clear h a w; intro a w h
  refine wvG h (by exact .t rfl) (fun hg => by (simp only [↓gval_on hg, ↓gval_and hg] at h); (have hg2 := hg; (simp only [Bool.and_eq_true, Bool.or_eq_true, Bool.not_eq_true', decide_eq_true_eq, decide_eq_false_iff_not] at hg2)); exact r_move h rfl) rfl ?_
  clear h a w; intro a w h
  refine wvG h (by exact .t rfl) (fun hg => by (simp only [↓gval_on hg, ↓gval_and hg] at h); (have hg2 := hg; (simp only [Bool.and_eq_true, Bool.or_eq_true, Bool.not_eq_true', decide_eq_true_eq, decide_eq_false_iff_not] at hg2)); exact r_sliceB h rfl K.u_S_uint8 K.sz_uint8 (by exact ViewsB.own 2 rfl) _ _ Bnd.no (Bnd.of rfl (by omega)) (by omega) (by omega)) rfl ?_
  clear h a w; intro a w h
  refine wvG h (by exact .t rfl) (fun hg => by (simp only [↓gval_on hg, ↓gval_and hg] at h); (have hg2 := hg; (simp only [Bool.and_eq_true, Bool.or_eq_true, Bool.not_eq_true', decide_eq_true_eq, decide_eq_false_iff_not] at hg2)); exact r_b2sb h rfl K.u_S_uint8 K.u_uint8 K.u_string (by exact ViewsB.sub (by exact ViewsB.own 2 rfl) (by omega) (by omega))) rfl ?_
  clear h a w; intro a w h
  refine wvG h (by exact .t rfl) (fun hg => by (simp only [↓gval_on hg, ↓gval_and hg] at h); (have hg2 := hg; (simp only [Bool.and_eq_true, Bool.or_eq_true, Bool.not_eq_true', decide_eq_true_eq, decide_eq_false_iff_not] at hg2)); exact r_streq h rfl rfl) rfl ?_
  clear h a w; intro a w h
  refine wv h (r_pickA h rfl rfl rfl) rfl ?_
  clear h a w; intro a w h
  refine wv h (r_move h rfl) rfl ?_
  clear h a w; intro a w h
  refine wvG h (by exact .t rfl) (fun hg => by (simp only [↓gval_on hg, ↓gval_and hg] at h); (have hg2 := hg; (simp only [Bool.and_eq_true, Bool.or_eq_true, Bool.not_eq_true', decide_eq_true_eq, decide_eq_false_iff_not] at hg2)); exact r_move h rfl) rfl ?_
  clear h a w; intro a w h
  refine wvG h (by exact .t rfl) (fun hg => by (simp only [↓gval_on hg, ↓gval_and hg] at h); (have hg2 := hg; (simp only [Bool.and_eq_true, Bool.or_eq_true, Bool.not_eq_true', decide_eq_true_eq, decide_eq_false_iff_not] at hg2)); exact r_lenV h rfl K.u_S_S_uint8 (by exact Views.own 0 rfl)) rfl ?_
  clear h a w; intro a w h
  refine wvG h (by exact .t rfl) (fun hg => by (simp only [↓gval_on hg, ↓gval_and hg] at h); (have hg2 := hg; (simp only [Bool.and_eq_true, Bool.or_eq_true, Bool.not_eq_true', decide_eq_true_eq, decide_eq_false_iff_not] at hg2)); exact r_bin h rfl rfl (B.eql_int)) rfl ?_
  clear h a w; intro a w h
  refine wv h (r_pickA h rfl rfl rfl) rfl ?_
  clear h a w; intro a w h
  have hb : (decide ((0 : Int) = 0) && decide ((0 : Int) = 0) && decide ((pb.length : Int) = 7) && decide (List.take (3 - 0) (List.drop 0 pb) = [80, 49, 128]) && decide ((([] : List SlV).length : Int) = 0)) = true := by simp [hpl, hp3]
  rw [hb] at h
  refine wv h (r_move h rfl) rfl ?_
  clear h a w; intro a w h
  refine wv h (r_pickA h rfl rfl rfl) rfl ?_
  clear h a w; intro a w h
  refine wv h (r_move h rfl) rfl ?_
  clear h a w; intro a w h
  refine wv h (r_pickA h rfl rfl rfl) rfl ?_
  clear h a w; intro a w h
  refine wv h (r_assign h rfl) rfl ?_
  clear h a w; intro a w h
  refine wnil (c_then ?_)
  refine c_ret ?_
  exact ret1 h rfl rfl ⟨(), rfl, h.2.tail.tail.tail, trivial⟩
theorem law16_PackOne (s w : World) (v0 : Value) (p : List UInt8) (F : List HItem) (hT : HasParts F) (hF : HasFirst F) (hC : HasLines F) (hv0 : ViewsB F v0 p) (hs : Sat s w F) :
    Calls P n_law16_PackOne #[v0] w (Ret s (fun _ : Unit => .bool true) (fun _ => F) (fun _ => True)) := by
  obtain ⟨A, cap, hsv, _⟩ := hv0.shape hs
  obtain ⟨x, hx⟩ : ∃ x : SlV, x = ⟨A, p.length, cap, p⟩ := ⟨_, rfl⟩
  have hxv : x.v = v0 := by rw [hx, hsv]
  have hxp : x.p = p := by rw [hx]
  have hone0 : v0.oneCell' = true := by rw [hsv]; rfl
  refine enter K.fn_law16_PackOne rfl K.nt_law16_PackOne rfl hs ?_
  clear hs w; intro a w h
  refine c_seq (c_region ?_)
  refine wv h (r_assign h rfl) rfl ?_
  clear h a w; intro a w h
  refine wnil (c_then ?_)
  refine c_seq ?_
  refine c_seq (c_region ?_)
  refine wl rfl (op_call h rfl K.go_law16_awake (law16_awake s _ _ hT hF hC h.2) rfl ?_)
  clear h a w; intro z6 a w hz6 h
  (simp only [List.set_cons_zero, List.set_cons_succ] at h)
  refine wv h (r_not h rfl) rfl ?_
  clear h a w; intro a w h
  refine wv h (r_move h rfl) rfl ?_
  clear h a w; intro a w h
  refine wvG h (by exact .f rfl) (fun hg => by (have hg2 := hg; (simp only [Bool.and_eq_true, Bool.or_eq_true, Bool.not_eq_true', decide_eq_true_eq, decide_eq_false_iff_not] at hg2)); exact r_move h rfl) rfl ?_
  clear h a w; intro a w h
  refine wvG h (by exact .f rfl) (fun hg => by (simp only [↓gval_on hg, ↓gval_and hg] at h); (have hg2 := hg; (simp only [Bool.and_eq_true, Bool.or_eq_true, Bool.not_eq_true', decide_eq_true_eq, decide_eq_false_iff_not] at hg2)); exact r_lenB h rfl K.u_S_uint8 (by assumption)) rfl ?_
  clear h a w; intro a w h
  refine wvG h (by exact .f rfl) (fun hg => by (simp only [↓gval_on hg, ↓gval_and hg] at h); (have hg2 := hg; (simp only [Bool.and_eq_true, Bool.or_eq_true, Bool.not_eq_true', decide_eq_true_eq, decide_eq_false_iff_not] at hg2)); exact r_bin h rfl rfl (B.eql_int)) rfl ?_
  clear h a w; intro a w h
  refine wv h (r_pickO h rfl rfl rfl) rfl ?_
  clear h a w; intro a w h
  refine wv h (r_move h rfl) rfl ?_
  clear h a w; intro a w h
  refine wvG h (by exact .f rfl) (fun hg => by (have hg2 := hg; (simp only [Bool.and_eq_true, Bool.or_eq_true, Bool.not_eq_true', decide_eq_true_eq, decide_eq_false_iff_not] at hg2)); exact r_move h rfl) rfl ?_
  clear h a w; intro a w h
  refine wvG h (by exact .f rfl) (fun hg => by (simp only [↓gval_on hg, ↓gval_and hg] at h); (have hg2 := hg; (simp only [Bool.and_eq_true, Bool.or_eq_true, Bool.not_eq_true', decide_eq_true_eq, decide_eq_false_iff_not] at hg2)); exact r_lenB h rfl K.u_S_uint8 (by assumption)) rfl ?_
  clear h a w; intro a w h
  refine wvG h (by exact .f rfl) (fun hg => by (simp only [↓gval_on hg, ↓gval_and hg] at h); (have hg2 := hg; (simp only [Bool.and_eq_true, Bool.or_eq_true, Bool.not_eq_true', decide_eq_true_eq, decide_eq_false_iff_not] at hg2)); exact r_bin h rfl rfl (B.gtr_int)) rfl ?_
  clear h a w; intro a w h
  refine wv h (r_pickO h rfl rfl rfl) rfl ?_
  clear h a w; intro a w h
  refine wnil (c_then ?_)
  refine c_condP (p := p.length = 0 ∨ 300 < p.length) h rfl (by simp only [Bool.not_true, Bool.false_or, Bool.or_eq_true, decide_eq_true_eq]; omega) (fun ht1 => ?_) (fun ht1 => ?_)
  ·
   as_aux_lemma =>
    refine c_seq (c_region ?_)
    refine wl rfl (op_call h rfl K.go_law16_awake (law16_awake s _ _ hT hF hC h.2) rfl ?_)
    clear h a w; intro z18 a w hz18 h
    refine wv h (r_assign h rfl) rfl ?_
    clear h a w; intro a w h
    refine wnil (c_then ?_)
    refine c_ret ?_
    exact ret1 h rfl rfl ⟨(), rfl, h.2, trivial⟩
  ·
   refine c_skip ?_
   refine c_then ?_
   refine c_seq (c_region ?_)
   refine wl rfl (op_buildSlice h K.u_S_uint8 K.sz_uint8 K.z_uint8 rfl rfl rfl rfl rfl (by simp [Value.cells, bv, w32, w64, sv]) rfl ?_)
   clear h a w; intro b19 a w h
   refine wl rfl (op_lit h rfl K.u_S_uint8 K.u_uint8 0 rfl rfl ?_)
   clear h a w; intro a w h
   (simp only [List.set_cons_zero, List.set_cons_succ] at h)
   replace h := h.toOwnb [80, 49, 129] (NF.past _) rfl rfl
   refine wv h (r_move h rfl) rfl ?_
   clear h a w; intro a w h
   refine wv h (r_lenB h rfl K.u_S_uint8 (by exact ViewsB.of_drop 1 (by assumption))) rfl ?_
   clear h a w; intro a w h
   refine wv h (r_bin h rfl rfl (B.mul_i64 (by omega) (by omega))) rfl ?_
   clear h a w; intro a w h
   rw [show (2 * (p.length : Int)) = ((2 * p.length : Nat) : Int) by omega] at h
   have hn1 := numN_len9 (2 * p.length) (by omega)
   refine wl rfl (op_call h rfl K.go_ref01_Num (ref_num s _ (2 * p.length) _ (by omega) h.2) rfl ?_)
   clear h a w; intro v24 a w hz24 h
   refine wv h (r_move h rfl) rfl ?_
   clear h a w; intro a w h
   refine wl rfl (op_appendbs h rfl rfl K.u_S_uint8 K.sz_uint8 K.z_uint8 rfl rfl 0 rfl (Src.bytes K.u_S_uint8 (by exact ViewsB.of_drop 2 (by assumption)) h.2) (by omega) rfl ?_)
   clear h a w; intro v26 a w h
   (simp only [List.set_cons_zero, List.set_cons_succ] at h)
   refine wl rfl (op_appendbs h rfl rfl K.u_S_uint8 K.sz_uint8 K.z_uint8 rfl rfl 1 rfl (Src.bytes K.u_S_uint8 (by exact ViewsB.own 0 rfl) h.2) (by (simp; omega)) rfl ?_)
   clear h a w; intro v27 a w h
   (simp only [List.set_cons_zero, List.set_cons_succ] at h)
   obtain ⟨Q, hQ⟩ : ∃ Q, Q = [80, 49, 129] ++ (numN (2 * p.length) ++ p) := ⟨_, rfl⟩
   have hQl : Q.length ≤ 400 := by rw [hQ]; simp only [List.length_append, List.length_cons, List.length_nil]; omega
   rw [← hQ] at h
   refine wv h (r_assign h rfl) rfl ?_
   clear h a w; intro a w h
   refine wnil (c_then ?_)
   refine c_seq (c_region ?_)
   refine wv h (r_move h rfl) rfl ?_
   clear h a w; intro a w h
   refine wv h (r_move h rfl) rfl ?_
   clear h a w; intro a w h
   refine wl rfl (op_call h rfl K.go_ref01_Sum (ref_sum s _ v27 Q _ (by omega) (by exact Views.own 1 rfl) h.2) rfl ?_)
   clear h a w; intro z30 a w hz30 h
   refine wl rfl (op_call h rfl K.go_ref01_Four (ref_four s _ (crcN Q) _ h.2) rfl ?_)
   clear h a w; intro v31 a w hz31 h
   have hf4 : (fourN (crcN Q)).length = 4 := rfl
   refine wl rfl (op_appendbs h rfl rfl K.u_S_uint8 K.sz_uint8 K.z_uint8 rfl rfl 2 rfl (Src.bytes K.u_S_uint8 (by exact ViewsB.own 0 rfl) h.2) (by omega) rfl ?_)
   clear h a w; intro v32 a w h
   (simp only [List.set_cons_zero, List.set_cons_succ] at h)
   have hQ2 : Q = headP ([p] : List (List UInt8)).length ++ tailP none 0 [p] := by rw [hQ]; simp [headP, tailP, numN1]
   have he : encP (bytesI (srtd [x])) = some (Q ++ fourN (crcN Q)) := by
     rw [srtd_one, hxp, encP_tail (fun q hq => by simp only [List.mem_singleton] at hq; subst hq; unfold OkP; omega) (by simp), ← hQ2]; rfl
   refine wv h (r_assign h rfl) rfl ?_
   clear h a w; intro a w h
   refine wnil (c_then ?_)
   refine c_seq (c_region ?_)
   refine wv h (r_move h rfl) rfl ?_
   clear h a w; intro a w h
   refine wl rfl (op_buildO h K.u_S_S_uint8 K.sz_S_uint8 K.z_S_uint8 rfl rfl rfl rfl (by simp only [List.mem_cons, List.not_mem_nil, or_false, forall_eq_or_imp, forall_eq]; (repeat' apply And.intro) <;> assumption) rfl ?_)
   clear h a w; intro b35 a w h
   refine wl rfl (op_call h rfl K.go_pack_Encode (pack_Encode s _ _ [x] _ ((((hT.cons _).cons _).cons _).cons _) ((((hF.cons _).cons _).cons _).cons _) ((((hC.cons _).cons _).cons _).cons _) (by rw [flatS]; simp only [List.map_cons, List.map_nil, hxv]; exact Views.blk 0 rfl rfl rfl rfl rfl) (fun y hy => by simp only [List.mem_singleton] at hy; subst hy; rw [hxv, hxp]; exact ⟨(((hv0.cons _).cons _).cons _).cons _, by omega⟩) (by simp) h.2) rfl ?_)
   clear h a w; intro v36 a w hz36 h
   rw [he] at h
   simp only [Option.isSome_some, Option.getD_some, if_true] at h
   refine wv h (r_move h rfl) rfl ?_
   clear h a w; intro a w h
   refine wv h (r_extractN h rfl rfl) rfl ?_
   clear h a w; intro a w h
   refine wv h (r_extractN h rfl rfl) rfl ?_
   clear h a w; intro a w h
   refine wv h (r_assign h rfl) rfl ?_
   clear h a w; intro a w h
   refine wv h (r_assign h rfl) rfl ?_
   clear h a w; intro a w h
   refine wnil (c_then ?_)
   refine c_seq (c_region ?_)
   refine wv h (r_move h rfl) rfl ?_
   clear h a w; intro a w h
   refine wv h (r_bin h rfl rfl (B.eql_int)) rfl ?_
   clear h a w; intro a w h
   refine wv h (r_move h rfl) rfl ?_
   clear h a w; intro a w h
   refine wvG h (by exact .t rfl) (fun hg => by (simp only [↓gval_on hg, ↓gval_and hg] at h); (have hg2 := hg; (simp only [Bool.and_eq_true, Bool.or_eq_true, Bool.not_eq_true', decide_eq_true_eq, decide_eq_false_iff_not] at hg2)); exact r_move h rfl) rfl ?_
   clear h a w; intro a w h
   refine wvG h (by exact .t rfl) (fun hg => by (simp only [↓gval_on hg, ↓gval_and hg] at h); (have hg2 := hg; (simp only [Bool.and_eq_true, Bool.or_eq_true, Bool.not_eq_true', decide_eq_true_eq, decide_eq_false_iff_not] at hg2)); exact r_b2sb h rfl K.u_S_uint8 K.u_uint8 K.u_string (by exact ViewsB.own 0 rfl)) rfl ?_
   clear h a w; intro a w h
   refine wvG h (by exact .t rfl) (fun hg => by (simp only [↓gval_on hg, ↓gval_and hg] at h); (have hg2 := hg; (simp only [Bool.and_eq_true, Bool.or_eq_true, Bool.not_eq_true', decide_eq_true_eq, decide_eq_false_iff_not] at hg2)); exact r_move h rfl) rfl ?_
   clear h a w; intro a w h
   refine wvG h (by exact .t rfl) (fun hg => by (simp only [↓gval_on hg, ↓gval_and hg] at h); (have hg2 := hg; (simp only [Bool.and_eq_true, Bool.or_eq_true, Bool.not_eq_true', decide_eq_true_eq, decide_eq_false_iff_not] at hg2)); exact r_b2sb h rfl K.u_S_uint8 K.u_uint8 K.u_string (by exact ViewsB.own 4 rfl)) rfl ?_
   clear h a w; intro a w h
   refine wvG h (by exact .t rfl) (fun hg => by (simp only [↓gval_on hg, ↓gval_and hg] at h); (have hg2 := hg; (simp only [Bool.and_eq_true, Bool.or_eq_true, Bool.not_eq_true', decide_eq_true_eq, decide_eq_false_iff_not] at hg2)); exact r_streq h rfl rfl) rfl ?_
   clear h a w; intro a w h
   refine wv h (r_pickA h rfl rfl rfl) rfl ?_
   clear h a w; intro a w h
   refine wv h (r_assign h rfl) rfl ?_
   clear h a w; intro a w h
   refine wnil (c_then ?_)
   refine c_ret ?_
   exact ret1 h rfl rfl ⟨(), by simp, h.2.drop 5, trivial⟩
end Go.Proofs.K

/- Objects by their keys, each once: one row alone is strictly sorted and has of each key the first. -/
namespace Go.Sl
/-- strictly sorted -/
def SS (l : List ItV) : Prop := l.Pairwise fun a b => lt a b = true
/-- of each key the same is first -/
def FK (l m : List ItV) : Prop := ∀ k : Key, l.find? (fun a => decide (a.k = k)) = m.find? (fun a => decide (a.k = k))
theorem FK.symm {l m : List ItV} (h : FK l m) : FK m l := fun k => (h k).symm
theorem FK.trans {l m n : List ItV} (h : FK l m) (h2 : FK m n) : FK l n := fun k => (h k).trans (h2 k)
theorem Stb.fk {l m : List ItV} (h : Stb l m) : FK l m := fun k => by rw [← List.head?_filter, ← List.head?_filter, h k]
theorem lt_key {a b c d : ItV} (h1 : a.k = c.k) (h2 : b.k = d.k) : lt a b = lt c d := by unfold lt; rw [h1, h2]
theorem lt_tr {a b c : ItV} (h1 : lt a b = true) (h2 : lt b c = true) : lt a c = true := lt_le h1 (lt_asym h2)
theorem FK.uniq : ∀ {l m : List ItV}, SS l → SS m → FK l m → l = m
  | [], [], _, _, _ => rfl
  | [], b :: m, _, _, h => by have := h b.k; simp at this
  | a :: l, [], _, _, h => by have := h a.k; simp at this
  | a :: l, b :: m, hl, hm, h => by
    obtain ⟨hl1, hl2⟩ := List.pairwise_cons.1 hl
    obtain ⟨hm1, hm2⟩ := List.pairwise_cons.1 hm
    have ha : a ∈ b :: m := List.mem_of_find?_eq_some ((h a.k).symm.trans (by simp))
    have hb : b ∈ a :: l := List.mem_of_find?_eq_some ((h b.k).trans (by simp))
    have e : a = b := by
      rcases List.mem_cons.1 ha with e | e
      · exact e
      · rcases List.mem_cons.1 hb with e2 | e2
        · exact e2.symm
        · have q := lt_asym (hm1 a e)
          rw [hl1 b e2] at q; cases q
    subst e
    have hn : ∀ (r : List ItV), (∀ y ∈ r, lt a y = true) → r.find? (fun y => decide (y.k = a.k)) = none := fun r hr => by
      rw [List.find?_eq_none]
      intro y hy e
      exact lt_ne (hr y hy) (of_decide_eq_true e).symm
    rw [FK.uniq hl2 hm2 (fun k => by
      by_cases e : a.k = k
      · subst e; rw [hn l hl1, hn m hm1]
      · have := h k
        rw [List.find?_cons_of_neg (by simpa using e), List.find?_cons_of_neg (by simpa using e)] at this
        exact this)]
theorem find_yes {a : ItV} {l : List ItV} {k : Key} (h : a.k = k) : (a :: l).find? (fun a => decide (a.k = k)) = some a := List.find?_cons_of_pos (p := fun a : ItV => decide (a.k = k)) (decide_eq_true h)
theorem find_no {a : ItV} {l : List ItV} {k : Key} (h : a.k ≠ k) : (a :: l).find? (fun a => decide (a.k = k)) = l.find? (fun a => decide (a.k = k)) := List.find?_cons_of_neg (p := fun a : ItV => decide (a.k = k)) (fun q => h (of_decide_eq_true q))
theorem compL_fk : ∀ (l : List ItV) (p : ItV), FK (p :: compL p l) (p :: l)
  | [], _ => fun _ => rfl
  | x :: l, p => fun k => by
    have ih := compL_fk l x k
    by_cases e : p.k = k
    · rw [List.find?_cons_of_pos (by simpa using e), List.find?_cons_of_pos (by simpa using e)]
    · rw [List.find?_cons_of_neg (by simpa using e), List.find?_cons_of_neg (by simpa using e), compL]
      split
      · rename_i e2
        have e3 : ¬ x.k = k := fun q => e (e2.symm.trans q)
        rw [List.find?_cons_of_neg (by simpa using e3), List.find?_cons_of_neg (by simpa using e3)] at ih
        rw [List.find?_cons_of_neg (by simpa using e3), ih]
      · exact ih
theorem comp_fk : ∀ (l : List ItV), FK (comp l) l
  | [] => fun _ => rfl
  | p :: l => compL_fk l p
theorem SS.head {p q : ItV} {l : List ItV} (h : SS (p :: l)) (e : q.k = p.k) : SS (q :: l) := by
  obtain ⟨h1, h2⟩ := List.pairwise_cons.1 h
  exact List.pairwise_cons.2 ⟨fun y hy => by rw [lt_key e rfl]; exact h1 y hy, h2⟩
theorem compL_ss : ∀ (l : List ItV) (p : ItV), Srt (p :: l) → SS (p :: compL p l)
  | [], p, _ => by unfold SS; simp [compL]
  | x :: l, p, h => by
    obtain ⟨h1, h2⟩ := List.pairwise_cons.1 h
    have ih := compL_ss l x h2
    rw [compL]
    split
    · rename_i e
      exact ih.head e.symm
    · rename_i e
      have hx : lt p x = true := by
        cases q : lt p x with
        | true => rfl
        | false => exact absurd (lt_tri q (h1 x (by simp))).symm e
      refine List.pairwise_cons.2 ⟨fun y hy => ?_, ih⟩
      rcases List.mem_cons.1 hy with rfl | hy
      · exact hx
      · exact lt_tr hx ((List.pairwise_cons.1 ih).1 y hy)
theorem comp_ss : ∀ (l : List ItV), Srt l → SS (comp l)
  | [], _ => by unfold SS; simp [comp]
  | p :: l, h => compL_ss l p h
theorem srtd_ss (xs : List SlV) : SS (srtd xs) := comp_ss _ (isort_srt _)
theorem srtd_fk (xs : List SlV) : FK (srtd xs) (xs.map itm) := (comp_fk _).trans (isort_stb _).symm.fk
theorem srtd_is {xs : List SlV} {l : List ItV} (h1 : SS l) (h2 : FK l (xs.map itm)) : l = srtd xs := FK.uniq h1 (srtd_ss xs) (h2.trans (srtd_fk xs).symm)
/-- what they hold, sorted -/
def srtx (xs : List SlV) : List SlV := (srtd xs).map (·.x)
theorem srtx_itm (xs : List SlV) : (srtx xs).map itm = srtd xs := by
  unfold srtx
  rw [List.map_map]
  conv => rhs; rw [← List.map_id (srtd xs)]
  refine List.map_congr_left (fun i hi => ?_)
  obtain ⟨_, e⟩ := srtd_mem hi
  show (⟨keyO i.x.p, i.x⟩ : ItV) = i
  rw [← e]
theorem srtx_ss (xs : List SlV) : SS ((srtx xs).map itm) := by rw [srtx_itm]; exact srtd_ss xs
theorem srtx_p (xs : List SlV) : (srtx xs).map (·.p) = bytesI (srtd xs) := by unfold srtx bytesI; rw [List.map_map]; rfl
theorem srtx_mem {xs : List SlV} {x : SlV} (h : x ∈ srtx xs) : x ∈ xs := by
  obtain ⟨i, hi, rfl⟩ := List.mem_map.1 h
  exact (srtd_mem hi).1
theorem srtx_len (xs : List SlV) : (srtx xs).length ≤ xs.length := by unfold srtx; rw [List.length_map]; exact srtd_len xs
/-- what is sorted stays -/
theorem ss_like : ∀ (l m : List SlV), l.map (·.p) = m.map (·.p) → SS (m.map itm) → SS (l.map itm)
  | [], _, _, _ => by unfold SS; simp
  | x :: l, [], h, _ => by simp at h
  | x :: l, y :: m, h, hm => by
    simp only [List.map_cons, List.cons.injEq] at h
    obtain ⟨h1, h2⟩ := List.pairwise_cons.1 hm
    refine List.pairwise_cons.2 ⟨fun z hz => ?_, ss_like l m h.2 h2⟩
    obtain ⟨u, hu, rfl⟩ := List.mem_map.1 hz
    have : u.p ∈ m.map (·.p) := by rw [← h.2]; exact List.mem_map_of_mem hu
    obtain ⟨t, ht, e⟩ := List.mem_map.1 this
    have := h1 (itm t) (List.mem_map_of_mem ht)
    rw [lt_key (c := itm y) (d := itm t) (by simp [itm, h.1]) (by simp [itm, e])]
    exact this
theorem srtd_again {xs ys : List SlV} (h : ys.map (·.p) = bytesI (srtd xs)) : bytesI (srtd ys) = bytesI (srtd xs) := by
  have h1 : SS (ys.map itm) := ss_like ys (srtx xs) (by rw [h, srtx_p]) (srtx_ss xs)
  rw [← srtd_is (xs := ys) h1 (fun _ => rfl), ← h]
  unfold bytesI; rw [List.map_map]; rfl
/-- is there one of this key -/
def hasK (O : List SlV) (k : Key) : Bool := O.any fun y => decide (keyO y.p = k)
theorem srtx_there {xs : List SlV} {x : SlV} (h : hasK (srtx xs) (keyO x.p) = true) : srtx (xs ++ [x]) = srtx xs := by
  unfold srtx
  rw [← srtd_is (xs := xs ++ [x]) (srtd_ss xs) ((srtd_fk xs).trans (fun k => ?_))]
  rw [List.map_append, List.find?_append]
  cases q : (xs.map itm).find? (fun a => decide (a.k = k)) with
  | some y => rfl
  | none =>
    have ne : ¬ decide ((itm x).k = k) = true := by
      intro e
      have e : keyO x.p = k := of_decide_eq_true e
      obtain ⟨y, hy, e2⟩ := List.any_eq_true.1 h
      rw [List.find?_eq_none] at q
      exact q (itm y) (List.mem_map_of_mem (srtx_mem hy)) (by rw [e] at e2; exact e2)
    rw [List.map_cons, List.map_nil, find_no (fun e => ne (decide_eq_true e))]; rfl
theorem srtx_put {xs : List SlV} {x : SlV} {at_ : Nat} (h : hasK (srtx xs) (keyO x.p) = false) (h1 : ∀ i y, i < at_ → (srtx xs)[i]? = some y → lt (itm y) (itm x) = true) (h2 : ∀ i y, at_ ≤ i → (srtx xs)[i]? = some y → lt (itm y) (itm x) = false) :
    srtx (xs ++ [x]) = (srtx xs).take at_ ++ x :: (srtx xs).drop at_ := by
  have hnk : ∀ y ∈ srtx xs, keyO y.p ≠ keyO x.p := fun y hy e => by
    have := List.any_eq_false.1 h y hy
    exact this (by simp [e])
  have key : ((srtx xs).take at_ ++ x :: (srtx xs).drop at_).map itm = srtd (xs ++ [x]) := by
    refine srtd_is ?_ (fun k => ?_)
    · rw [List.map_append, List.map_cons]
      have hs := srtx_ss xs
      rw [← List.take_append_drop at_ (srtx xs), List.map_append] at hs
      obtain ⟨s1, s2, s3⟩ := List.pairwise_append.1 hs
      refine List.pairwise_append.2 ⟨s1, List.pairwise_cons.2 ⟨fun z hz => ?_, s2⟩, fun y hy z hz => ?_⟩
      · obtain ⟨u, hu, rfl⟩ := List.mem_map.1 hz
        obtain ⟨i, hi⟩ := List.mem_iff_getElem?.1 hu
        rw [List.getElem?_drop] at hi
        have q := h2 _ u (Nat.le_add_right _ _) hi
        cases q2 : lt (itm x) (itm u) with
        | true => rfl
        | false => exact absurd (lt_tri q q2) (hnk u (List.mem_of_getElem? hi))
      · rcases List.mem_cons.1 hz with rfl | hz
        · obtain ⟨u, hu, rfl⟩ := List.mem_map.1 hy
          obtain ⟨i, hi⟩ := List.mem_iff_getElem?.1 hu
          rw [List.getElem?_take] at hi
          split at hi
          · exact h1 i u (by assumption) hi
          · cases hi
        · exact s3 y hy z hz
    · rw [List.map_append, List.map_append, List.map_cons, List.find?_append, List.find?_append]
      have hf := srtd_fk xs k
      rw [← srtx_itm] at hf
      conv at hf => lhs; rw [← List.take_append_drop at_ (srtx xs), List.map_append, List.find?_append]
      by_cases e : keyO x.p = k
      · have hno : ∀ (l : List SlV), (∀ y ∈ l, y ∈ srtx xs) → (l.map itm).find? (fun a => decide (a.k = k)) = none := fun l hl => by
          rw [List.find?_eq_none]
          intro z hz
          obtain ⟨u, hu, rfl⟩ := List.mem_map.1 hz
          have := hnk u (hl u hu)
          rw [e] at this
          exact fun q => this (of_decide_eq_true q)
        have n1 := hno ((srtx xs).take at_) (fun y hy => List.mem_of_mem_take hy)
        have n2 := hno ((srtx xs).drop at_) (fun y hy => List.mem_of_mem_drop hy)
        rw [← hf, n1, n2, List.map_cons, find_yes (show (itm x).k = k from e), find_yes (show (itm x).k = k from e)]; rfl
      · rw [find_no (show (itm x).k ≠ k from e), hf, List.map_cons, find_no (show (itm x).k ≠ k from e)]; simp
  have := congrArg (List.map (·.x)) key
  rw [List.map_map] at this
  unfold srtx at this ⊢
  rw [← this]
  exact List.map_id _
/-- the places of those that are less, as a loop finds them -/
structure AtI (O : List SlV) (x : SlV) (j at_ : Nat) : Prop where
  le : at_ ≤ j
  less : ∀ i y, i < at_ → O[i]? = some y → lt (itm y) (itm x) = true
  more : ∀ i y, at_ ≤ i → i < j → O[i]? = some y → lt (itm y) (itm x) = false
theorem AtI.zero (O : List SlV) (x : SlV) : AtI O x 0 0 := ⟨Nat.le_refl _, fun i y h => by omega, fun i y h h' => by omega⟩
theorem AtI.yes {O : List SlV} {x y : SlV} {j at_ : Nat} (h : AtI O x j at_) (hs : SS (O.map itm)) (hy : O[j]? = some y) (hl : lt (itm y) (itm x) = true) : AtI O x (j + 1) (j + 1) :=
  ⟨Nat.le_refl _, fun i z hi hz => by
    rcases Nat.lt_or_ge i j with q | q
    · have hj : j < (O.map itm).length := by rw [List.length_map]; exact (List.getElem?_eq_some_iff.1 hy).1
      have := List.pairwise_iff_getElem.1 hs i j (by omega) hj q
      have e1 : (O.map itm)[i]? = some (itm z) := by rw [List.getElem?_map, hz]; rfl
      have e2 : (O.map itm)[j]? = some (itm y) := by rw [List.getElem?_map, hy]; rfl
      rw [(List.getElem?_eq_some_iff.1 e1).2, (List.getElem?_eq_some_iff.1 e2).2] at this
      exact lt_tr this hl
    · obtain rfl : i = j := by omega
      rw [hy] at hz; cases hz; exact hl, fun i z h1 h2 => by omega⟩
theorem AtI.no {O : List SlV} {x y : SlV} {j at_ : Nat} (h : AtI O x j at_) (hy : O[j]? = some y) (hl : lt (itm y) (itm x) = false) : AtI O x (j + 1) at_ :=
  ⟨by have := h.le; omega, h.less, fun i z h1 h2 hz => by
    rcases Nat.lt_or_ge i j with q | q
    · exact h.more i z h1 q hz
    · obtain rfl : i = j := by omega
      rw [hy] at hz; cases hz; exact hl⟩
end Go.Sl

/- The contract of the document's own sum of bytes. -/
namespace Go.Proofs.K
open Go.Sl

theorem ref_Stamp (s w : World) (v : Value) (p : List UInt8) (F : List HItem) (hv : ViewsB F v p) (hp : p.length ≤ 2147483648) (hs : Sat s w F) :
    Calls P n_ref01_Stamp #[v] w (Ret s (fun _ : Unit => .agg (arr8 (sha p))) (fun _ => F) (fun _ => True)) := by
  refine enter K.fn_ref01_Stamp rfl K.nt_ref01_Stamp rfl hs ?_
  clear hs w; intro a w h
  refine c_seq (c_region ?_)
  refine wl rfl (op_alloc h K.z_A32_uint8 rfl ?_)
  clear h a w; intro b2 a w h
  rw [show (Value.agg (Array.replicate 32 (Value.int .u8 0))).cells = arr8 (List.replicate 32 0) from (arr8_zero 32).symm] at h
  refine wnil (c_then ?_)
  refine c_seq (c_region ?_)
  refine wl rfl (op_buildSlice h K.u_S_uint32 K.sz_uint32 K.z_uint32 rfl rfl rfl rfl rfl (by simp [Value.cells, bv, w32, w64, sv]) rfl ?_)
  clear h a w; intro b31 a w h
  obtain ⟨vk, hvk⟩ : ∃ vk, vk = Value.slice (some ⟨b31, 0, none⟩) 64 64 := ⟨_, rfl⟩
  replace h : St 284 s a w _ (OwnL w32 (.slice (some ⟨b31, 0, none⟩) 64 64) shaK :: Blk b2 (.cells (arr8 (List.replicate 32 0)) t_A32_uint8) :: F) := h.toOwnL shaK (NF.zero _) (by kernel_rfl) rfl rfl
  rw [← hvk] at h
  clear hvk
  refine wv h (r_assign h rfl) rfl ?_
  clear h a w; intro a w h
  refine wnil (c_then ?_)
  refine c_seq (c_region ?_)
  refine wl rfl (op_buildSlice h K.u_S_uint32 K.sz_uint32 K.z_uint32 rfl rfl rfl rfl rfl (by simp [Value.cells, bv, w32, w64, sv]) rfl ?_)
  clear h a w; intro b32 a w h
  obtain ⟨vh, hvh⟩ : ∃ vh, vh = Value.slice (some ⟨b32, 0, none⟩) 8 8 := ⟨_, rfl⟩
  replace h : St 284 s a w _ (OwnL w32 (.slice (some ⟨b32, 0, none⟩) 8 8) sha0.lst :: OwnL w32 vk shaK :: Blk b2 (.cells (arr8 (List.replicate 32 0)) t_A32_uint8) :: F) := h.toOwnL sha0.lst (NF.zero _) (by kernel_rfl) rfl rfl
  rw [← hvh] at h
  clear hvh
  generalize hGk : (OwnL w32 vk shaK :: Blk b2 (.cells (arr8 (List.replicate 32 0)) t_A32_uint8) :: F) = Gk at h
  have hvp : ViewsB Gk v p := by rw [← hGk]; exact (hv.cons _).cons _
  have hvK : Views Gk 1 vk 64 (shaK.map w32) := by rw [← hGk]; exact Views.own 0 rfl
  generalize hG : (OwnL w32 vh sha0.lst :: Gk) = G at h
  have hvG : ViewsB G v p := by rw [← hG]; exact hvp.cons _
  refine wv h (r_assign h rfl) rfl ?_
  clear h a w; intro a w h
  refine wnil (c_then ?_)
  refine c_seq (c_region ?_)
  refine wv h (r_move h rfl) rfl ?_
  clear h a w; intro a w h
  refine wl rfl (op_appendnbs h rfl rfl K.u_S_uint8 K.sz_uint8 K.z_uint8 rfl rfl (Src.bytes K.u_S_uint8 (by assumption) h.2) (by omega) rfl ?_)
  clear h a w; intro v34 a w h
  refine wl rfl (op_buildSlice h K.u_S_uint8 K.sz_uint8 K.z_uint8 rfl rfl rfl rfl rfl (by simp [Value.cells, bv, w32, w64, sv]) rfl ?_)
  clear h a w; intro b35 a w h
  refine wl rfl (op_appendb (u := 128) h rfl rfl K.u_S_uint8 K.sz_uint8 K.z_uint8 rfl rfl 0 rfl (by omega) rfl ?_)
  clear h a w; intro v36 a w h
  (simp only [List.set_cons_zero, List.set_cons_succ] at h)
  refine wv h (r_assign h rfl) rfl ?_
  clear h a w; intro a w h
  refine wnil (c_then ?_)
  refine c_seq ?_
  refine c_block ?_
  refine c_loopX h (X := Nat × Value) (fun x => [(0, v), (2, .pointer (some ⟨b2, 0, none⟩)), (3, vk), (4, vh), (5, x.2)])
    (fun x => OwnB x.2 (p ++ [128] ++ List.replicate x.1 0) :: G) (fun x => x.1 ≤ shaZeros p.length) (fun x => shaZeros p.length - x.1) (0, v36) ?_ (Nat.zero_le _) ?_
  · have e : p ++ [128] = p ++ [128] ++ List.replicate 0 0 := by simp
    rw [e] at h
    exact h.keep [0, 2, 3, 4, 5]
  clear h a w; intro x a w hx h
  obtain ⟨j, va⟩ := x
  replace hx : j ≤ shaZeros p.length := hx
  have hz : shaZeros p.length ≤ 63 := by unfold shaZeros; omega
  dsimp only at h
  as_aux_lemma =>
   refine c_seq ?_
   refine c_seq (c_region ?_)
   refine wv h (r_move h rfl) rfl ?_
   clear h a w; intro a w h
   refine wv h (r_lenB h rfl K.u_S_uint8 (by exact ViewsB.own 0 rfl)) rfl ?_
   clear h a w; intro a w h
   refine wv h (r_bin h rfl rfl (B.rem_i64 (by omega) (by omega))) rfl ?_
   clear h a w; intro a w h
   refine wv h (r_bin h rfl rfl (B.neq_int)) rfl ?_
   clear h a w; intro a w h
   refine wnil (c_then ?_)
   refine c_condD h rfl (fun ht1 => ?_) (fun ht1 => ?_)
   ·
    simp at ht1
    have hj : j < shaZeros p.length := by unfold shaZeros at hx ⊢; omega
    refine c_skip ?_
    refine c_then ?_
    refine c_block ?_
    refine c_region ?_
    refine wv h (r_move h rfl) rfl ?_
    clear h a w; intro a w h
    refine wl rfl (op_buildSlice h K.u_S_uint8 K.sz_uint8 K.z_uint8 rfl rfl rfl rfl rfl (by simp [Value.cells, bv, w32, w64, sv]) rfl ?_)
    clear h a w; intro b42 a w h
    refine wl rfl (op_appendb (u := 0) h rfl rfl K.u_S_uint8 K.sz_uint8 K.z_uint8 rfl rfl 0 rfl (by (simp; omega)) rfl ?_)
    clear h a w; intro v43 a w h
    (simp only [List.set_cons_zero, List.set_cons_succ] at h)
    refine wv h (r_assign h rfl) rfl ?_
    clear h a w; intro a w h
    rw [List.append_assoc _ _ [0], show List.replicate j (0 : UInt8) ++ [0] = List.replicate (j + 1) 0 from List.replicate_succ'.symm] at h
    refine wnil ?_
    refine b_normal ?_
    exact ⟨(j + 1, v43), h.keep [0, 2, 3, 4, 5], hj, by show shaZeros p.length - (j + 1) < shaZeros p.length - j; omega⟩
   ·
    simp at ht1
    obtain rfl : j = shaZeros p.length := by unfold shaZeros at hx ⊢; omega
    refine c_exit ?_
    refine e_then ?_
    refine e_then ?_
    refine e_here ?_
    refine c_then ?_
    refine c_seq (c_region ?_)
    refine wv h (r_move h rfl) rfl ?_
    clear h a w; intro a w h
    refine wv h (r_lenB h rfl K.u_S_uint8 (by exact ViewsB.cons (by assumption) _)) rfl ?_
    clear h a w; intro a w h
    refine wv h (r_conv h rfl K.u_int K.u_uint64 (C.u64_i64) ) rfl ?_
    clear h a w; intro a w h
    refine wv h (r_bin h rfl rfl (B.mul_u64 (y := 8))) rfl ?_
    clear h a w; intro a w h
    refine wv h (r_assign h rfl) rfl ?_
    clear h a w; intro a w h
    have hn : (UInt64.ofInt (p.length : Int) * 8).toNat = p.length * 8 := by
      have e : (UInt64.ofInt (p.length : Int)).toNat = p.length := by simp [UInt64.ofInt, UInt64.toNat_ofNat']; omega
      rw [UInt64.toNat_mul, e]
      show p.length * 8 % 2 ^ 64 = _
      omega
    generalize UInt64.ofInt (p.length : Int) * 8 = n64 at h hn
    refine wnil (c_then ?_)
    refine c_seq ?_
    refine c_seq (c_region ?_)
    refine wv h (r_assign h rfl) rfl ?_
    clear h a w; intro a w h
    refine wnil (c_then ?_)
    refine c_block ?_
    refine c_loopX h (X := Nat × Value) (fun x => [(2, .pointer (some ⟨b2, 0, none⟩)), (3, vk), (4, vh), (5, x.2), (6, w64 n64), (7, .int .i64 (x.1 : Int))])
      (fun x => OwnB x.2 (p ++ [128] ++ List.replicate (shaZeros p.length) 0 ++ shaTail p.length x.1) :: G) (fun x => x.1 ≤ 8) (fun x => 8 - x.1) (0, va) ?_ (Nat.zero_le _) ?_
    · have e : p ++ [128] ++ List.replicate (shaZeros p.length) 0 = p ++ [128] ++ List.replicate (shaZeros p.length) 0 ++ shaTail p.length 0 := by simp [shaTail]
      rw [e] at h
      exact h.keep [2, 3, 4, 5, 6, 7]
    clear h a w; intro x a w hx h
    obtain ⟨j, va⟩ := x
    replace hx : j ≤ 8 := hx
    have htl : (shaTail p.length j).length = j := by simp [shaTail]
    dsimp only at h
    as_aux_lemma =>
     refine c_seq ?_
     refine c_seq (c_region ?_)
     refine wv h (r_move h rfl) rfl ?_
     clear h a w; intro a w h
     refine wv h (r_bin h rfl rfl (B.lss_int)) rfl ?_
     clear h a w; intro a w h
     refine wnil (c_then ?_)
     refine c_condD h rfl (fun ht2 => ?_) (fun ht2 => ?_)
     ·
      refine c_skip ?_
      refine c_then ?_
      refine c_seq ?_
      refine c_block ?_
      refine c_region ?_
      refine wv h (r_move h rfl) rfl ?_
      clear h a w; intro a w h
      refine wv h (r_move h rfl) rfl ?_
      clear h a w; intro a w h
      refine wv h (r_move h rfl) rfl ?_
      clear h a w; intro a w h
      refine wv h (r_bin h rfl rfl (B.mul_i64 (by omega) (by omega))) rfl ?_
      clear h a w; intro a w h
      refine wv h (r_bin h rfl rfl (B.sub_i64 (by omega) (by omega))) rfl ?_
      clear h a w; intro a w h
      refine wv h (r_bin h rfl rfl (B.shr_u64 (by omega))) rfl ?_
      clear h a w; intro a w h
      refine wv h (r_conv h rfl K.u_uint64 K.u_uint8 (C.u8_u64) ) rfl ?_
      clear h a w; intro a w h
      rw [toUInt8_ofNat64, hn, show (56 - 8 * (j : Int)).toNat = 56 - 8 * j by omega] at h
      refine wl rfl (op_buildSlice h K.u_S_uint8 K.sz_uint8 K.z_uint8 rfl rfl rfl rfl rfl (by simp [Value.cells, bv, w32, w64, sv]) rfl ?_)
      clear h a w; intro b59 a w h
      refine wl rfl (op_appendb h rfl rfl K.u_S_uint8 K.sz_uint8 K.z_uint8 rfl rfl 0 rfl (by (simp; omega)) rfl ?_)
      clear h a w; intro v60 a w h
      (simp only [List.set_cons_zero, List.set_cons_succ] at h)
      refine wv h (r_assign h rfl) rfl ?_
      clear h a w; intro a w h
      rw [List.append_assoc _ (shaTail p.length j), shaTail_succ] at h
      refine wnil ?_
      refine b_normal ?_
      refine c_then ?_
      refine c_region ?_
      refine wv h (r_move h rfl) rfl ?_
      clear h a w; intro a w h
      refine wv h (r_bin h rfl rfl (B.add_i64 (by omega) (by omega))) rfl ?_
      clear h a w; intro a w h
      refine wv h (r_assign h rfl) rfl ?_
      clear h a w; intro a w h
      refine wnil ?_
      exact ⟨(j + 1, v60), h.keep [2, 3, 4, 5, 6, 7], (by show j + 1 ≤ 8; omega), by show 8 - (j + 1) < 8 - j; omega⟩
     ·
      obtain rfl : j = 8 := by omega
      rw [← shaPad_eq] at h
      have hpl := shaPad_len p
      have hpl2 : (shaPad p).length ≤ 2147483648 + 200 := by simp [shaPad]; omega
      have hsha : sha p = (shaAll ((shaPad p).length / 64) sha0 (shaPad p)).lst.flatMap shaBytes := rfl
      generalize shaPad p = pad at h hpl hpl2 hsha
      generalize hR : shaAll (pad.length / 64) sha0 pad = R at hsha
      rw [← hG] at h
      replace h : St 284 s a w _ (OwnL w32 vh sha0.lst :: OwnB va pad :: Gk) := h.front 1 rfl
      refine c_exit ?_
      refine e_then ?_
      refine e_then ?_
      refine e_here ?_
      refine c_then ?_
      refine c_seq ?_
      refine c_seq (c_region ?_)
      refine wv h (r_assign h rfl) rfl ?_
      clear h a w; intro a w h
      refine wnil (c_then ?_)
      refine c_block ?_
      refine c_loopX h (X := Nat × Sha8) (fun x => [(2, .pointer (some ⟨b2, 0, none⟩)), (3, vk), (4, vh), (5, va), (8, .int .i64 ((64 * x.1 : Nat) : Int))])
        (fun x => OwnL w32 vh x.2.lst :: OwnB va pad :: Gk) (fun x => 64 * x.1 ≤ pad.length ∧ shaAll ((pad.drop (64 * x.1)).length / 64) x.2 (pad.drop (64 * x.1)) = R) (fun x => pad.length - 64 * x.1) (0, sha0) (h.keep [2, 3, 4, 5, 8]) ⟨by simp, by simpa using hR⟩ ?_
      clear h a w; intro x a w hx h
      obtain ⟨k, hh⟩ := x
      obtain ⟨hx1, hx2⟩ := hx
      replace hx1 : 64 * k ≤ pad.length := hx1
      dsimp only at h hx2
      as_aux_lemma =>
       refine c_seq ?_
       refine c_seq (c_region ?_)
       refine wv h (r_move h rfl) rfl ?_
       clear h a w; intro a w h
       refine wv h (r_move h rfl) rfl ?_
       clear h a w; intro a w h
       refine wv h (r_lenB h rfl K.u_S_uint8 (by exact ViewsB.own 1 rfl)) rfl ?_
       clear h a w; intro a w h
       refine wv h (r_bin h rfl rfl (B.lss_int)) rfl ?_
       clear h a w; intro a w h
       refine wnil (c_then ?_)
       refine c_condD h rfl (fun ht3 => ?_) (fun ht3 => ?_)
       ·
        have h64 : 64 * k + 64 ≤ pad.length := by omega
        have hst := shaAll_step (pad.drop (64 * k)) hh (by rw [List.length_drop]; omega) (by rw [List.length_drop]; omega)
        rw [List.drop_drop, show 64 * k + 64 = 64 * (k + 1) by omega] at hst
        have hblk : shaBlock hh ((pad.drop (64 * k)).take 64) = shaAdd hh (shaRounds hh (shaW ((pad.drop (64 * k)).take 64)) 64) := rfl
        have hgb : ∀ j, j < 64 → ((pad.drop (64 * k)).take 64).getD j 0 = pad.getD (64 * k + j) 0 := fun j hj => drop_take_getD pad 0 _ _ _ hj
        generalize (pad.drop (64 * k)).take 64 = blk at hst hblk hgb
        have hWl := shaW_len blk
        have hWlow := shaW_low blk
        have hWhigh := shaW_high blk
        generalize shaW blk = W at hWl hWlow hWhigh hblk
        have hll : hh.lst.length = 8 := rfl
        refine c_skip ?_
        refine c_then ?_
        refine c_seq ?_
        refine c_block ?_
        refine c_seq (c_region ?_)
        refine wv h (r_assign h rfl) rfl ?_
        clear h a w; intro a w h
        replace h := h.addNilL (enc := w32)
        generalize hM : (OwnL w32 vh hh.lst :: OwnB va pad :: Gk) = M at h
        have hvM : ViewsB M va pad := by rw [← hM]; exact ViewsB.own 1 rfl
        have hvMk : Views M 1 vk 64 (shaK.map w32) := by rw [← hM]; exact (hvK.cons _).cons _
        have hvMh : Views M 1 vh 8 (hh.lst.map w32) := by rw [← hM]; exact Views.own 0 rfl
        refine wnil (c_then ?_)
        refine c_seq ?_
        refine c_seq (c_region ?_)
        refine wv h (r_assign h rfl) rfl ?_
        clear h a w; intro a w h
        refine wnil (c_then ?_)
        refine c_block ?_
        refine c_loopX h (X := Nat × Value) (fun x => [(2, .pointer (some ⟨b2, 0, none⟩)), (3, vk), (4, vh), (5, va), (8, .int .i64 ((64 * k : Nat) : Int)), (9, x.2), (10, .int .i64 (x.1 : Int))])
          (fun x => OwnL w32 x.2 (W.take x.1) :: M) (fun x => x.1 ≤ 16) (fun x => 16 - x.1) (0, .slice none 0 0) (h.keep [2, 3, 4, 5, 8, 9, 10]) (Nat.zero_le _) ?_
        clear h a w; intro x a w hx h
        obtain ⟨i, v9⟩ := x
        replace hx : i ≤ 16 := hx
        dsimp only at h
        as_aux_lemma =>
         refine c_seq ?_
         refine c_seq (c_region ?_)
         refine wv h (r_move h rfl) rfl ?_
         clear h a w; intro a w h
         refine wv h (r_bin h rfl rfl (B.lss_int)) rfl ?_
         clear h a w; intro a w h
         refine wnil (c_then ?_)
         refine c_condD h rfl (fun ht4 => ?_) (fun ht4 => ?_)
         ·
          refine c_skip ?_
          refine c_then ?_
          refine c_seq ?_
          refine c_block ?_
          refine c_seq (c_region ?_)
          refine wv h (r_assign h rfl) rfl ?_
          clear h a w; intro a w h
          refine wnil (c_then ?_)
          refine c_seq ?_
          refine c_seq (c_region ?_)
          refine wv h (r_assign h rfl) rfl ?_
          clear h a w; intro a w h
          refine wnil (c_then ?_)
          refine c_block ?_
          refine c_loopX h (X := Nat) (fun j => [(2, .pointer (some ⟨b2, 0, none⟩)), (3, vk), (4, vh), (5, va), (8, .int .i64 ((64 * k : Nat) : Int)), (9, v9), (10, .int .i64 (i : Int)), (11, w32 (shaAcc blk i j)), (12, .int .i64 (j : Int))])
            (fun j => OwnL w32 v9 (W.take i) :: M) (fun j => j ≤ 4) (fun j => 4 - j) 0 (h.keep [2, 3, 4, 5, 8, 9, 10, 11, 12]) (Nat.zero_le _) ?_
          clear h a w; intro j a w hxj h
          as_aux_lemma =>
           refine c_seq ?_
           refine c_seq (c_region ?_)
           refine wv h (r_move h rfl) rfl ?_
           clear h a w; intro a w h
           refine wv h (r_bin h rfl rfl (B.lss_int)) rfl ?_
           clear h a w; intro a w h
           refine wnil (c_then ?_)
           refine c_condD h rfl (fun ht5 => ?_) (fun ht5 => ?_)
           ·
            refine c_skip ?_
            refine c_then ?_
            refine c_seq ?_
            refine c_block ?_
            refine c_region ?_
            refine wv h (r_move h rfl) rfl ?_
            clear h a w; intro a w h
            refine wv h (r_bin h rfl rfl (B.mul_u32 (y := 256))) rfl ?_
            clear h a w; intro a w h
            refine wv h (r_move h rfl) rfl ?_
            clear h a w; intro a w h
            refine wv h (r_move h rfl) rfl ?_
            clear h a w; intro a w h
            refine wv h (r_move h rfl) rfl ?_
            clear h a w; intro a w h
            refine wv h (r_bin h rfl rfl (B.mul_i64 (by omega) (by omega))) rfl ?_
            clear h a w; intro a w h
            refine wv h (r_bin h rfl rfl (B.add_i64 (by omega) (by omega))) rfl ?_
            clear h a w; intro a w h
            refine wv h (r_move h rfl) rfl ?_
            clear h a w; intro a w h
            refine wv h (r_bin h rfl rfl (B.add_i64 (by omega) (by omega))) rfl ?_
            clear h a w; intro a w h
            refine wv h (r_elP h rfl rfl K.u_S_uint8 K.sz_uint8 (by exact ViewsB.cons (by assumption) _) (by omega) (by omega)) rfl ?_
            clear h a w; intro a w h
            refine wv h (r_elb h rfl K.u_uint8 rfl (by exact ViewsB.cons (by assumption) _) (by omega)) rfl ?_
            clear h a w; intro a w h
            rw [Nat.add_assoc (64 * k), ← hgb (4 * i + j) (by omega)] at h
            refine wv h (r_conv h rfl K.u_uint8 K.u_uint32 (C.u32_u8) ) rfl ?_
            clear h a w; intro a w h
            refine wv h (r_bin h rfl rfl (B.add_u32)) rfl ?_
            clear h a w; intro a w h
            refine wv h (r_assign h rfl) rfl ?_
            clear h a w; intro a w h
            refine wnil ?_
            refine b_normal ?_
            refine c_then ?_
            refine c_region ?_
            refine wv h (r_move h rfl) rfl ?_
            clear h a w; intro a w h
            refine wv h (r_bin h rfl rfl (B.add_i64 (by omega) (by omega))) rfl ?_
            clear h a w; intro a w h
            refine wv h (r_assign h rfl) rfl ?_
            clear h a w; intro a w h
            refine wnil ?_
            exact ⟨j + 1, h.keep [2, 3, 4, 5, 8, 9, 10, 11, 12], (by show j + 1 ≤ 4; omega), by show 4 - (j + 1) < 4 - j; omega⟩
           ·
            obtain rfl : j = 4 := by omega
            have hWi := hWlow i (by omega)
            rw [shaAcc_four] at h
            have htk : W.take i ++ [shaWord blk i] = W.take (i + 1) := by rw [List.take_add_one, hWi]; rfl
            have hl9 : (W.take i).length = i := by rw [List.length_take]; omega
            refine c_exit ?_
            refine e_then ?_
            refine e_then ?_
            refine e_here ?_
            refine c_then ?_
            refine c_region ?_
            refine wv h (r_move h rfl) rfl ?_
            clear h a w; intro a w h
            refine wv h (r_move h rfl) rfl ?_
            clear h a w; intro a w h
            refine wl rfl (op_buildSlice h K.u_S_uint32 K.sz_uint32 K.z_uint32 rfl rfl rfl rfl rfl (by simp [Value.cells, bv, w32, w64, sv]) rfl ?_)
            clear h a w; intro b90 a w h
            refine wl rfl (op_appendL1 (enc := w32) h rfl rfl rfl K.u_S_uint32 K.sz_uint32 K.z_uint32 rfl rfl 0 rfl (by omega) rfl ?_)
            clear h a w; intro v91 a w h
            (simp only [List.set_cons_zero, List.set_cons_succ] at h)
            rw [htk] at h
            refine wv h (r_assign h rfl) rfl ?_
            clear h a w; intro a w h
            refine wnil ?_
            refine b_normal ?_
            refine c_then ?_
            refine c_region ?_
            refine wv h (r_move h rfl) rfl ?_
            clear h a w; intro a w h
            refine wv h (r_bin h rfl rfl (B.add_i64 (by omega) (by omega))) rfl ?_
            clear h a w; intro a w h
            refine wv h (r_assign h rfl) rfl ?_
            clear h a w; intro a w h
            refine wnil ?_
            exact ⟨(i + 1, v91), h.keep [2, 3, 4, 5, 8, 9, 10], (by show i + 1 ≤ 16; omega), by show 16 - (i + 1) < 16 - i; omega⟩
         ·
          obtain rfl : i = 16 := by omega
          refine c_exit ?_
          refine e_then ?_
          refine e_then ?_
          refine e_here ?_
          refine c_then ?_
          refine c_seq ?_
          refine c_seq (c_region ?_)
          refine wv h (r_assign h rfl) rfl ?_
          clear h a w; intro a w h
          refine wnil (c_then ?_)
          refine c_block ?_
          refine c_loopX h (X := Nat × Value) (fun x => [(2, .pointer (some ⟨b2, 0, none⟩)), (3, vk), (4, vh), (5, va), (8, .int .i64 ((64 * k : Nat) : Int)), (9, x.2), (13, .int .i64 (x.1 : Int))])
            (fun x => OwnL w32 x.2 (W.take x.1) :: M) (fun x => 16 ≤ x.1 ∧ x.1 ≤ 64) (fun x => 64 - x.1) (16, v9) (h.keep [2, 3, 4, 5, 8, 9, 13]) (by simp) ?_
          clear h a w; intro x a w hx h
          obtain ⟨i, v9⟩ := x
          obtain ⟨hi1, hi2⟩ := hx
          replace hi1 : 16 ≤ i := hi1
          replace hi2 : i ≤ 64 := hi2
          dsimp only at h
          have hl9 : (W.take i).length = i := by rw [List.length_take]; omega
          as_aux_lemma =>
           refine c_seq ?_
           refine c_seq (c_region ?_)
           refine wv h (r_move h rfl) rfl ?_
           clear h a w; intro a w h
           refine wv h (r_bin h rfl rfl (B.lss_int)) rfl ?_
           clear h a w; intro a w h
           refine wnil (c_then ?_)
           refine c_condD h rfl (fun ht6 => ?_) (fun ht6 => ?_)
           ·
            have hWi := hWhigh i hi1 (by omega)
            have htk : W.take i ++ [shaNext (W.take i)] = W.take (i + 1) := by rw [List.take_add_one, hWi]; rfl
            have hnx : (W.take i).getD (i - 16) 0 + shaS0 ((W.take i).getD (i - 15) 0) + (W.take i).getD (i - 7) 0 + shaS1 ((W.take i).getD (i - 2) 0) = shaNext (W.take i) := by rw [shaNext, hl9]
            generalize W.take i = Y at *
            refine c_skip ?_
            refine c_then ?_
            refine c_seq ?_
            refine c_block ?_
            refine c_seq (c_draw K.mixed (by kernel_rfl) h ?_)
            clear h a w; intro a hE
            refine qv hE (fun w hw => r_move ⟨hE, hw⟩ rfl) rfl ?_
            clear hE a; intro a hE
            refine qv hE (fun w hw => r_move ⟨hE, hw⟩ rfl) rfl ?_
            clear hE a; intro a hE
            refine qv hE (fun w hw => r_bin ⟨hE, hw⟩ rfl rfl (B.sub_i64 (by omega) (by omega))) rfl ?_
            clear hE a; intro a hE
            refine qv hE (fun w hw => r_elP ⟨hE, hw⟩ rfl rfl K.u_S_uint32 K.sz_uint32 (by exact Views.own 0 rfl) (by omega) (by omega)) rfl ?_
            clear hE a; intro a hE
            refine qv hE (fun w hw => r_el32 ⟨hE, hw⟩ rfl K.u_uint32 rfl (by exact Views.own 0 rfl) (by omega)) rfl ?_
            clear hE a; intro a hE
            refine q_call hE rfl K.go_ref01_turn (fun w hw => Ret.keeps (ref_turn s w _ 7 (by omega) (by omega) _ hw) (fun _ _ => rfl) (fun _ _ h => h)) rfl ?_
            clear hE a; intro a hE
            refine qv hE (fun w hw => r_move ⟨hE, hw⟩ rfl) rfl ?_
            clear hE a; intro a hE
            refine qv hE (fun w hw => r_move ⟨hE, hw⟩ rfl) rfl ?_
            clear hE a; intro a hE
            refine qv hE (fun w hw => r_bin ⟨hE, hw⟩ rfl rfl (B.sub_i64 (by omega) (by omega))) rfl ?_
            clear hE a; intro a hE
            refine qv hE (fun w hw => r_elP ⟨hE, hw⟩ rfl rfl K.u_S_uint32 K.sz_uint32 (by exact Views.own 0 rfl) (by omega) (by omega)) rfl ?_
            clear hE a; intro a hE
            refine qv hE (fun w hw => r_el32 ⟨hE, hw⟩ rfl K.u_uint32 rfl (by exact Views.own 0 rfl) (by omega)) rfl ?_
            clear hE a; intro a hE
            refine q_call hE rfl K.go_ref01_turn (fun w hw => Ret.keeps (ref_turn s w _ 18 (by omega) (by omega) _ hw) (fun _ _ => rfl) (fun _ _ h => h)) rfl ?_
            clear hE a; intro a hE
            refine qv hE (fun w hw => r_bin ⟨hE, hw⟩ rfl rfl (B.xor_u32)) rfl ?_
            clear hE a; intro a hE
            refine qv hE (fun w hw => r_move ⟨hE, hw⟩ rfl) rfl ?_
            clear hE a; intro a hE
            refine qv hE (fun w hw => r_move ⟨hE, hw⟩ rfl) rfl ?_
            clear hE a; intro a hE
            refine qv hE (fun w hw => r_bin ⟨hE, hw⟩ rfl rfl (B.sub_i64 (by omega) (by omega))) rfl ?_
            clear hE a; intro a hE
            refine qv hE (fun w hw => r_elP ⟨hE, hw⟩ rfl rfl K.u_S_uint32 K.sz_uint32 (by exact Views.own 0 rfl) (by omega) (by omega)) rfl ?_
            clear hE a; intro a hE
            refine qv hE (fun w hw => r_el32 ⟨hE, hw⟩ rfl K.u_uint32 rfl (by exact Views.own 0 rfl) (by omega)) rfl ?_
            clear hE a; intro a hE
            refine qv hE (fun w hw => r_bin ⟨hE, hw⟩ rfl rfl (B.shr_u32 (by decide))) rfl ?_
            clear hE a; intro a hE
            refine qv hE (fun w hw => r_bin ⟨hE, hw⟩ rfl rfl (B.xor_u32)) rfl ?_
            clear hE a; intro a hE
            rw [show rotr (Y.getD (i - 15) 0) 7 ^^^ rotr (Y.getD (i - 15) 0) 18 ^^^ UInt32.ofNat ((Y.getD (i - 15) 0).toNat / 2 ^ (3 : Int).toNat) = shaS0 (Y.getD (i - 15) 0) from rfl] at hE
            refine qv hE (fun w hw => r_assign ⟨hE, hw⟩ rfl) rfl ?_
            clear hE a; intro a hE
            refine qnil hE ?_
            clear hE a; intro a w h
            refine c_then ?_
            refine c_seq (c_draw K.mixed (by kernel_rfl) h ?_)
            clear h a w; intro a hE
            refine qv hE (fun w hw => r_move ⟨hE, hw⟩ rfl) rfl ?_
            clear hE a; intro a hE
            refine qv hE (fun w hw => r_move ⟨hE, hw⟩ rfl) rfl ?_
            clear hE a; intro a hE
            refine qv hE (fun w hw => r_bin ⟨hE, hw⟩ rfl rfl (B.sub_i64 (by omega) (by omega))) rfl ?_
            clear hE a; intro a hE
            refine qv hE (fun w hw => r_elP ⟨hE, hw⟩ rfl rfl K.u_S_uint32 K.sz_uint32 (by exact Views.own 0 rfl) (by omega) (by omega)) rfl ?_
            clear hE a; intro a hE
            refine qv hE (fun w hw => r_el32 ⟨hE, hw⟩ rfl K.u_uint32 rfl (by exact Views.own 0 rfl) (by omega)) rfl ?_
            clear hE a; intro a hE
            refine q_call hE rfl K.go_ref01_turn (fun w hw => Ret.keeps (ref_turn s w _ 17 (by omega) (by omega) _ hw) (fun _ _ => rfl) (fun _ _ h => h)) rfl ?_
            clear hE a; intro a hE
            refine qv hE (fun w hw => r_move ⟨hE, hw⟩ rfl) rfl ?_
            clear hE a; intro a hE
            refine qv hE (fun w hw => r_move ⟨hE, hw⟩ rfl) rfl ?_
            clear hE a; intro a hE
            refine qv hE (fun w hw => r_bin ⟨hE, hw⟩ rfl rfl (B.sub_i64 (by omega) (by omega))) rfl ?_
            clear hE a; intro a hE
            refine qv hE (fun w hw => r_elP ⟨hE, hw⟩ rfl rfl K.u_S_uint32 K.sz_uint32 (by exact Views.own 0 rfl) (by omega) (by omega)) rfl ?_
            clear hE a; intro a hE
            refine qv hE (fun w hw => r_el32 ⟨hE, hw⟩ rfl K.u_uint32 rfl (by exact Views.own 0 rfl) (by omega)) rfl ?_
            clear hE a; intro a hE
            refine q_call hE rfl K.go_ref01_turn (fun w hw => Ret.keeps (ref_turn s w _ 19 (by omega) (by omega) _ hw) (fun _ _ => rfl) (fun _ _ h => h)) rfl ?_
            clear hE a; intro a hE
            refine qv hE (fun w hw => r_bin ⟨hE, hw⟩ rfl rfl (B.xor_u32)) rfl ?_
            clear hE a; intro a hE
            refine qv hE (fun w hw => r_move ⟨hE, hw⟩ rfl) rfl ?_
            clear hE a; intro a hE
            refine qv hE (fun w hw => r_move ⟨hE, hw⟩ rfl) rfl ?_
            clear hE a; intro a hE
            refine qv hE (fun w hw => r_bin ⟨hE, hw⟩ rfl rfl (B.sub_i64 (by omega) (by omega))) rfl ?_
            clear hE a; intro a hE
            refine qv hE (fun w hw => r_elP ⟨hE, hw⟩ rfl rfl K.u_S_uint32 K.sz_uint32 (by exact Views.own 0 rfl) (by omega) (by omega)) rfl ?_
            clear hE a; intro a hE
            refine qv hE (fun w hw => r_el32 ⟨hE, hw⟩ rfl K.u_uint32 rfl (by exact Views.own 0 rfl) (by omega)) rfl ?_
            clear hE a; intro a hE
            refine qv hE (fun w hw => r_bin ⟨hE, hw⟩ rfl rfl (B.shr_u32 (by decide))) rfl ?_
            clear hE a; intro a hE
            refine qv hE (fun w hw => r_bin ⟨hE, hw⟩ rfl rfl (B.xor_u32)) rfl ?_
            clear hE a; intro a hE
            rw [show rotr (Y.getD (i - 2) 0) 17 ^^^ rotr (Y.getD (i - 2) 0) 19 ^^^ UInt32.ofNat ((Y.getD (i - 2) 0).toNat / 2 ^ (10 : Int).toNat) = shaS1 (Y.getD (i - 2) 0) from rfl] at hE
            refine qv hE (fun w hw => r_assign ⟨hE, hw⟩ rfl) rfl ?_
            clear hE a; intro a hE
            refine qnil hE ?_
            clear hE a; intro a w h
            refine c_then ?_
            refine c_held ((Rd 1 v9 Y.length (Y.map w32) :: M)) 19 K.mixed rfl h ?_
            clear h a w; intro a w h
            refine h_take (listed' := #[true, false, false, false, false, false, false, false, false, false, false, false, false, false, false, false, false, false, false]) h 0 (by as_aux_lemma => kernel_rfl) rfl (by as_aux_lemma => kernel_rfl) (by as_aux_lemma => kernel_rfl) (by as_aux_lemma => kernel_rfl) (fun _ _ _ hh => hh) (by exact h.2.rd0) (fun w hw => r_move ⟨h.1, hw⟩ rfl) rfl ?_
            try clear hR
            clear h a w; intro a w h
            refine h_take (listed' := #[true, true, false, false, false, false, false, false, false, false, false, false, false, false, false, false, false, false, false]) h 1 (by as_aux_lemma => kernel_rfl) rfl (by as_aux_lemma => kernel_rfl) (by as_aux_lemma => kernel_rfl) (by as_aux_lemma => kernel_rfl) (fun _ _ _ hh => hh) (by exact h.2.rd0) (fun w hw => r_move ⟨h.1, hw⟩ rfl) rfl ?_
            try clear hR
            clear h a w; intro a w h
            refine h_take (listed' := #[true, true, true, false, false, false, false, false, false, false, false, false, false, false, false, false, false, false, false]) h 2 (by as_aux_lemma => kernel_rfl) rfl (by as_aux_lemma => kernel_rfl) (by as_aux_lemma => kernel_rfl) (by as_aux_lemma => kernel_rfl) (fun _ _ _ hh => hh) (by exact h.2.rd0) (fun w hw => r_move ⟨h.1, hw⟩ rfl) rfl ?_
            try clear hR
            clear h a w; intro a w h
            refine h_take (listed' := #[true, true, true, true, false, false, false, false, false, false, false, false, false, false, false, false, false, false, false]) h 3 (by as_aux_lemma => kernel_rfl) rfl (by as_aux_lemma => kernel_rfl) (by as_aux_lemma => kernel_rfl) (by as_aux_lemma => kernel_rfl) (fun _ _ _ hh => hh) (by exact h.2.rd0) (fun w hw => r_bin ⟨h.1, hw⟩ rfl rfl (B.sub_i64 (by omega) (by omega))) rfl ?_
            try clear hR
            clear h a w; intro a w h
            refine h_take (listed' := #[true, true, true, true, true, false, false, false, false, false, false, false, false, false, false, false, false, false, false]) h 4 (by as_aux_lemma => kernel_rfl) rfl (by as_aux_lemma => kernel_rfl) (by as_aux_lemma => kernel_rfl) (by as_aux_lemma => kernel_rfl) (fun _ _ _ hh => hh) (by exact h.2.rd0) (fun w hw => r_elP ⟨h.1, hw⟩ rfl rfl K.u_S_uint32 K.sz_uint32 (Views.rd 0 rfl) (by omega) (by omega)) rfl ?_
            try clear hR
            clear h a w; intro a w h
            refine h_take (listed' := #[true, true, true, true, true, true, false, false, false, false, false, false, false, false, false, false, false, false, false]) h 5 (by as_aux_lemma => kernel_rfl) rfl (by as_aux_lemma => kernel_rfl) (by as_aux_lemma => kernel_rfl) (by as_aux_lemma => kernel_rfl) (fun _ _ _ hh => hh) (by exact h.2.rd0) (fun w hw => r_el32 ⟨h.1, hw⟩ rfl K.u_uint32 rfl (Views.rd 0 rfl) (by omega)) rfl ?_
            try clear hR
            clear h a w; intro a w h
            refine h_take (listed' := #[true, true, true, true, true, true, true, false, false, false, false, false, false, false, false, false, false, false, false]) h 6 (by as_aux_lemma => kernel_rfl) rfl (by as_aux_lemma => kernel_rfl) (by as_aux_lemma => kernel_rfl) (by as_aux_lemma => kernel_rfl) (fun _ _ _ hh => hh) (by exact h.2.rd0) (fun w hw => r_move ⟨h.1, hw⟩ rfl) rfl ?_
            try clear hR
            clear h a w; intro a w h
            refine h_take (listed' := #[true, true, true, true, true, true, true, true, false, false, false, false, false, false, false, false, false, false, false]) h 7 (by as_aux_lemma => kernel_rfl) rfl (by as_aux_lemma => kernel_rfl) (by as_aux_lemma => kernel_rfl) (by as_aux_lemma => kernel_rfl) (fun _ _ _ hh => hh) (by exact h.2.rd0) (fun w hw => r_bin ⟨h.1, hw⟩ rfl rfl (B.add_u32)) rfl ?_
            try clear hR
            clear h a w; intro a w h
            refine h_take (listed' := #[true, true, true, true, true, true, true, true, true, false, false, false, false, false, false, false, false, false, false]) h 8 (by as_aux_lemma => kernel_rfl) rfl (by as_aux_lemma => kernel_rfl) (by as_aux_lemma => kernel_rfl) (by as_aux_lemma => kernel_rfl) (fun _ _ _ hh => hh) (by exact h.2.rd0) (fun w hw => r_move ⟨h.1, hw⟩ rfl) rfl ?_
            try clear hR
            clear h a w; intro a w h
            refine h_take (listed' := #[true, true, true, true, true, true, true, true, true, true, false, false, false, false, false, false, false, false, false]) h 9 (by as_aux_lemma => kernel_rfl) rfl (by as_aux_lemma => kernel_rfl) (by as_aux_lemma => kernel_rfl) (by as_aux_lemma => kernel_rfl) (fun _ _ _ hh => hh) (by exact h.2.rd0) (fun w hw => r_move ⟨h.1, hw⟩ rfl) rfl ?_
            try clear hR
            clear h a w; intro a w h
            refine h_take (listed' := #[true, true, true, true, true, true, true, true, true, true, true, false, false, false, false, false, false, false, false]) h 10 (by as_aux_lemma => kernel_rfl) rfl (by as_aux_lemma => kernel_rfl) (by as_aux_lemma => kernel_rfl) (by as_aux_lemma => kernel_rfl) (fun _ _ _ hh => hh) (by exact h.2.rd0) (fun w hw => r_bin ⟨h.1, hw⟩ rfl rfl (B.sub_i64 (by omega) (by omega))) rfl ?_
            try clear hR
            clear h a w; intro a w h
            refine h_take (listed' := #[true, true, true, true, true, true, true, true, true, true, true, true, false, false, false, false, false, false, false]) h 11 (by as_aux_lemma => kernel_rfl) rfl (by as_aux_lemma => kernel_rfl) (by as_aux_lemma => kernel_rfl) (by as_aux_lemma => kernel_rfl) (fun _ _ _ hh => hh) (by exact h.2.rd0) (fun w hw => r_elP ⟨h.1, hw⟩ rfl rfl K.u_S_uint32 K.sz_uint32 (Views.rd 0 rfl) (by omega) (by omega)) rfl ?_
            try clear hR
            clear h a w; intro a w h
            refine h_take (listed' := #[true, true, true, true, true, true, true, true, true, true, true, true, true, false, false, false, false, false, false]) h 12 (by as_aux_lemma => kernel_rfl) rfl (by as_aux_lemma => kernel_rfl) (by as_aux_lemma => kernel_rfl) (by as_aux_lemma => kernel_rfl) (fun _ _ _ hh => hh) (by exact h.2.rd0) (fun w hw => r_el32 ⟨h.1, hw⟩ rfl K.u_uint32 rfl (Views.rd 0 rfl) (by omega)) rfl ?_
            try clear hR
            clear h a w; intro a w h
            refine h_take (listed' := #[true, true, true, true, true, true, true, true, true, true, true, true, true, true, false, false, false, false, false]) h 13 (by as_aux_lemma => kernel_rfl) rfl (by as_aux_lemma => kernel_rfl) (by as_aux_lemma => kernel_rfl) (by as_aux_lemma => kernel_rfl) (fun _ _ _ hh => hh) (by exact h.2.rd0) (fun w hw => r_bin ⟨h.1, hw⟩ rfl rfl (B.add_u32)) rfl ?_
            try clear hR
            clear h a w; intro a w h
            refine h_take (listed' := #[true, true, true, true, true, true, true, true, true, true, true, true, true, true, true, false, false, false, false]) h 14 (by as_aux_lemma => kernel_rfl) rfl (by as_aux_lemma => kernel_rfl) (by as_aux_lemma => kernel_rfl) (by as_aux_lemma => kernel_rfl) (fun _ _ _ hh => hh) (by exact h.2.rd0) (fun w hw => r_move ⟨h.1, hw⟩ rfl) rfl ?_
            try clear hR
            clear h a w; intro a w h
            refine h_take (listed' := #[true, true, true, true, true, true, true, true, true, true, true, true, true, true, true, true, false, false, false]) h 15 (by as_aux_lemma => kernel_rfl) rfl (by as_aux_lemma => kernel_rfl) (by as_aux_lemma => kernel_rfl) (by as_aux_lemma => kernel_rfl) (fun _ _ _ hh => hh) (by exact h.2.rd0) (fun w hw => r_bin ⟨h.1, hw⟩ rfl rfl (B.add_u32)) rfl ?_
            try clear hR
            clear h a w; intro a w h
            rw [hnx] at h
            refine h_only (listed' := #[true, true, true, true, true, true, true, true, true, true, true, true, true, true, true, true, true, false, false]) 16 (by as_aux_lemma => kernel_rfl) rfl rfl (by as_aux_lemma => kernel_rfl) ?_
            refine op_buildSlice h K.u_S_uint32 K.sz_uint32 K.z_uint32 rfl rfl rfl rfl rfl (by simp [Value.cells, bv, w32, w64, sv]) rfl ?_
            clear h a w; intro b152 a w h
            refine ⟨(by exact (h.2.drop 1).rd0), ?_⟩
            refine h_only (listed' := #[true, true, true, true, true, true, true, true, true, true, true, true, true, true, true, true, true, true, false]) 17 (by as_aux_lemma => kernel_rfl) rfl rfl (by as_aux_lemma => kernel_rfl) ?_
            refine op_appendL1R (enc := w32) h rfl rfl rfl K.u_S_uint32 K.sz_uint32 K.z_uint32 rfl rfl 0 rfl (by omega) rfl ?_
            clear h a w; intro v153 a w hR h
            (simp only [List.set_cons_zero, List.set_cons_succ] at h)
            simp only [List.set_cons_zero] at h hR
            rw [htk] at h
            refine ⟨(by exact hR), ?_⟩
            refine h_take (listed' := #[true, true, true, true, true, true, true, true, true, true, true, true, true, true, true, true, true, true, true]) h 18 (by as_aux_lemma => kernel_rfl) rfl (by as_aux_lemma => kernel_rfl) (by as_aux_lemma => kernel_rfl) (by as_aux_lemma => kernel_rfl) (fun _ _ _ hh => hh) (by exact hR) (fun w hw => r_assign ⟨h.1, hw⟩ rfl) rfl ?_
            try clear hR
            clear h a w; intro a w h
            refine h_done (by kernel_rfl) ?_
            refine b_normal ?_
            refine c_then ?_
            refine c_region ?_
            refine wv h (r_move h rfl) rfl ?_
            clear h a w; intro a w h
            refine wv h (r_bin h rfl rfl (B.add_i64 (by omega) (by omega))) rfl ?_
            clear h a w; intro a w h
            refine wv h (r_assign h rfl) rfl ?_
            clear h a w; intro a w h
            refine wnil ?_
            exact ⟨(i + 1, v153), h.keep [2, 3, 4, 5, 8, 9, 13], (by show 16 ≤ i + 1 ∧ i + 1 ≤ 64; omega), by show 64 - (i + 1) < 64 - i; omega⟩
           ·
            obtain rfl : i = 64 := by omega
            rw [List.take_of_length_le (by omega)] at h
            refine c_exit ?_
            refine e_then ?_
            refine e_then ?_
            refine e_here ?_
            refine c_then ?_
            refine c_seq (c_region ?_)
            refine wv h (r_move h rfl) rfl ?_
            clear h a w; intro a w h
            refine wv h (r_elP h rfl rfl K.u_S_uint32 K.sz_uint32 (by exact Views.cons (by assumption) _) (by omega) (by omega)) rfl ?_
            clear h a w; intro a w h
            refine wv h (r_el32 h rfl K.u_uint32 rfl (by exact Views.cons (by assumption) _) (by omega)) rfl ?_
            clear h a w; intro a w h
            rw [show hh.lst.getD 0 0 = hh.a from rfl] at h
            refine wv h (r_assign h rfl) rfl ?_
            clear h a w; intro a w h
            refine wnil (c_then ?_)
            refine c_seq (c_region ?_)
            refine wv h (r_move h rfl) rfl ?_
            clear h a w; intro a w h
            refine wv h (r_elP h rfl rfl K.u_S_uint32 K.sz_uint32 (by exact Views.cons (by assumption) _) (by omega) (by omega)) rfl ?_
            clear h a w; intro a w h
            refine wv h (r_el32 h rfl K.u_uint32 rfl (by exact Views.cons (by assumption) _) (by omega)) rfl ?_
            clear h a w; intro a w h
            rw [show hh.lst.getD 1 0 = hh.b from rfl] at h
            refine wv h (r_assign h rfl) rfl ?_
            clear h a w; intro a w h
            refine wnil (c_then ?_)
            refine c_seq (c_region ?_)
            refine wv h (r_move h rfl) rfl ?_
            clear h a w; intro a w h
            refine wv h (r_elP h rfl rfl K.u_S_uint32 K.sz_uint32 (by exact Views.cons (by assumption) _) (by omega) (by omega)) rfl ?_
            clear h a w; intro a w h
            refine wv h (r_el32 h rfl K.u_uint32 rfl (by exact Views.cons (by assumption) _) (by omega)) rfl ?_
            clear h a w; intro a w h
            rw [show hh.lst.getD 2 0 = hh.c from rfl] at h
            refine wv h (r_assign h rfl) rfl ?_
            clear h a w; intro a w h
            refine wnil (c_then ?_)
            refine c_seq (c_region ?_)
            refine wv h (r_move h rfl) rfl ?_
            clear h a w; intro a w h
            refine wv h (r_elP h rfl rfl K.u_S_uint32 K.sz_uint32 (by exact Views.cons (by assumption) _) (by omega) (by omega)) rfl ?_
            clear h a w; intro a w h
            refine wv h (r_el32 h rfl K.u_uint32 rfl (by exact Views.cons (by assumption) _) (by omega)) rfl ?_
            clear h a w; intro a w h
            rw [show hh.lst.getD 3 0 = hh.d from rfl] at h
            refine wv h (r_assign h rfl) rfl ?_
            clear h a w; intro a w h
            refine wnil (c_then ?_)
            refine c_seq (c_region ?_)
            refine wv h (r_move h rfl) rfl ?_
            clear h a w; intro a w h
            refine wv h (r_elP h rfl rfl K.u_S_uint32 K.sz_uint32 (by exact Views.cons (by assumption) _) (by omega) (by omega)) rfl ?_
            clear h a w; intro a w h
            refine wv h (r_el32 h rfl K.u_uint32 rfl (by exact Views.cons (by assumption) _) (by omega)) rfl ?_
            clear h a w; intro a w h
            rw [show hh.lst.getD 4 0 = hh.e from rfl] at h
            refine wv h (r_assign h rfl) rfl ?_
            clear h a w; intro a w h
            refine wnil (c_then ?_)
            refine c_seq (c_region ?_)
            refine wv h (r_move h rfl) rfl ?_
            clear h a w; intro a w h
            refine wv h (r_elP h rfl rfl K.u_S_uint32 K.sz_uint32 (by exact Views.cons (by assumption) _) (by omega) (by omega)) rfl ?_
            clear h a w; intro a w h
            refine wv h (r_el32 h rfl K.u_uint32 rfl (by exact Views.cons (by assumption) _) (by omega)) rfl ?_
            clear h a w; intro a w h
            rw [show hh.lst.getD 5 0 = hh.f from rfl] at h
            refine wv h (r_assign h rfl) rfl ?_
            clear h a w; intro a w h
            refine wnil (c_then ?_)
            refine c_seq (c_region ?_)
            refine wv h (r_move h rfl) rfl ?_
            clear h a w; intro a w h
            refine wv h (r_elP h rfl rfl K.u_S_uint32 K.sz_uint32 (by exact Views.cons (by assumption) _) (by omega) (by omega)) rfl ?_
            clear h a w; intro a w h
            refine wv h (r_el32 h rfl K.u_uint32 rfl (by exact Views.cons (by assumption) _) (by omega)) rfl ?_
            clear h a w; intro a w h
            rw [show hh.lst.getD 6 0 = hh.g from rfl] at h
            refine wv h (r_assign h rfl) rfl ?_
            clear h a w; intro a w h
            refine wnil (c_then ?_)
            refine c_seq (c_region ?_)
            refine wv h (r_move h rfl) rfl ?_
            clear h a w; intro a w h
            refine wv h (r_elP h rfl rfl K.u_S_uint32 K.sz_uint32 (by exact Views.cons (by assumption) _) (by omega) (by omega)) rfl ?_
            clear h a w; intro a w h
            refine wv h (r_el32 h rfl K.u_uint32 rfl (by exact Views.cons (by assumption) _) (by omega)) rfl ?_
            clear h a w; intro a w h
            rw [show hh.lst.getD 7 0 = hh.z from rfl] at h
            refine wv h (r_assign h rfl) rfl ?_
            clear h a w; intro a w h
            refine wnil (c_then ?_)
            refine c_seq ?_
            refine c_seq (c_region ?_)
            refine wv h (r_assign h rfl) rfl ?_
            clear h a w; intro a w h
            refine wnil (c_then ?_)
            refine c_block ?_
            refine c_loopX h (X := Nat) (fun i => [(2, .pointer (some ⟨b2, 0, none⟩)), (3, vk), (4, vh), (5, va), (8, .int .i64 ((64 * k : Nat) : Int)), (9, v9), (16, w32 (shaRounds hh W i).a), (17, w32 (shaRounds hh W i).b), (18, w32 (shaRounds hh W i).c), (19, w32 (shaRounds hh W i).d), (20, w32 (shaRounds hh W i).e), (21, w32 (shaRounds hh W i).f), (22, w32 (shaRounds hh W i).g), (23, w32 (shaRounds hh W i).z), (24, .int .i64 (i : Int))])
              (fun i => OwnL w32 v9 W :: M) (fun i => i ≤ 64) (fun i => 64 - i) 0 (h.keep [2, 3, 4, 5, 8, 9, 16, 17, 18, 19, 20, 21, 22, 23, 24]) (Nat.zero_le _) ?_
            clear h a w; intro i a w hx h
            as_aux_lemma =>
             refine c_seq ?_
             refine c_seq (c_region ?_)
             refine wv h (r_move h rfl) rfl ?_
             clear h a w; intro a w h
             refine wv h (r_bin h rfl rfl (B.lss_int)) rfl ?_
             clear h a w; intro a w h
             refine wnil (c_then ?_)
             refine c_condD h rfl (fun ht7 => ?_) (fun ht7 => ?_)
             ·
              have hrd : shaRounds hh W (i + 1) = shaRound (shaRounds hh W i) (shaK.getD i 0) (W.getD i 0) := rfl
              generalize shaRounds hh W i = V at h hrd
              have hkl := shaK_len
              refine c_skip ?_
              refine c_then ?_
              refine c_seq ?_
              refine c_block ?_
              refine c_seq (c_draw K.mixed (by kernel_rfl) h ?_)
              clear h a w; intro a hE
              refine qv hE (fun w hw => r_move ⟨hE, hw⟩ rfl) rfl ?_
              clear hE a; intro a hE
              refine qv hE (fun w hw => r_move ⟨hE, hw⟩ rfl) rfl ?_
              clear hE a; intro a hE
              refine q_call hE rfl K.go_ref01_turn (fun w hw => Ret.keeps (ref_turn s w _ 6 (by omega) (by omega) _ hw) (fun _ _ => rfl) (fun _ _ h => h)) rfl ?_
              clear hE a; intro a hE
              refine qv hE (fun w hw => r_move ⟨hE, hw⟩ rfl) rfl ?_
              clear hE a; intro a hE
              refine q_call hE rfl K.go_ref01_turn (fun w hw => Ret.keeps (ref_turn s w _ 11 (by omega) (by omega) _ hw) (fun _ _ => rfl) (fun _ _ h => h)) rfl ?_
              clear hE a; intro a hE
              refine qv hE (fun w hw => r_bin ⟨hE, hw⟩ rfl rfl (B.xor_u32)) rfl ?_
              clear hE a; intro a hE
              refine qv hE (fun w hw => r_move ⟨hE, hw⟩ rfl) rfl ?_
              clear hE a; intro a hE
              refine q_call hE rfl K.go_ref01_turn (fun w hw => Ret.keeps (ref_turn s w _ 25 (by omega) (by omega) _ hw) (fun _ _ => rfl) (fun _ _ h => h)) rfl ?_
              clear hE a; intro a hE
              refine qv hE (fun w hw => r_bin ⟨hE, hw⟩ rfl rfl (B.xor_u32)) rfl ?_
              clear hE a; intro a hE
              refine qv hE (fun w hw => r_bin ⟨hE, hw⟩ rfl rfl (B.add_u32)) rfl ?_
              clear hE a; intro a hE
              refine qv hE (fun w hw => r_move ⟨hE, hw⟩ rfl) rfl ?_
              clear hE a; intro a hE
              refine qv hE (fun w hw => r_move ⟨hE, hw⟩ rfl) rfl ?_
              clear hE a; intro a hE
              refine qv hE (fun w hw => r_bin ⟨hE, hw⟩ rfl rfl (B.and_u32)) rfl ?_
              clear hE a; intro a hE
              refine qv hE (fun w hw => r_move ⟨hE, hw⟩ rfl) rfl ?_
              clear hE a; intro a hE
              refine qv hE (fun w hw => r_bin ⟨hE, hw⟩ rfl rfl (B.sub_u32 (x := 4294967295))) rfl ?_
              clear hE a; intro a hE
              rw [sub_full] at hE
              refine qv hE (fun w hw => r_move ⟨hE, hw⟩ rfl) rfl ?_
              clear hE a; intro a hE
              refine qv hE (fun w hw => r_bin ⟨hE, hw⟩ rfl rfl (B.and_u32)) rfl ?_
              clear hE a; intro a hE
              refine qv hE (fun w hw => r_bin ⟨hE, hw⟩ rfl rfl (B.xor_u32)) rfl ?_
              clear hE a; intro a hE
              refine qv hE (fun w hw => r_bin ⟨hE, hw⟩ rfl rfl (B.add_u32)) rfl ?_
              clear hE a; intro a hE
              refine qv hE (fun w hw => r_move ⟨hE, hw⟩ rfl) rfl ?_
              clear hE a; intro a hE
              refine qv hE (fun w hw => r_move ⟨hE, hw⟩ rfl) rfl ?_
              clear hE a; intro a hE
              refine qv hE (fun w hw => r_elP ⟨hE, hw⟩ rfl rfl K.u_S_uint32 K.sz_uint32 (by exact Views.cons (by assumption) _) (by omega) (by omega)) rfl ?_
              clear hE a; intro a hE
              refine qv hE (fun w hw => r_el32 ⟨hE, hw⟩ rfl K.u_uint32 rfl (by exact Views.cons (by assumption) _) (by omega)) rfl ?_
              clear hE a; intro a hE
              refine qv hE (fun w hw => r_bin ⟨hE, hw⟩ rfl rfl (B.add_u32)) rfl ?_
              clear hE a; intro a hE
              refine qv hE (fun w hw => r_move ⟨hE, hw⟩ rfl) rfl ?_
              clear hE a; intro a hE
              refine qv hE (fun w hw => r_move ⟨hE, hw⟩ rfl) rfl ?_
              clear hE a; intro a hE
              refine qv hE (fun w hw => r_elP ⟨hE, hw⟩ rfl rfl K.u_S_uint32 K.sz_uint32 (by exact Views.own 0 rfl) (by omega) (by omega)) rfl ?_
              clear hE a; intro a hE
              refine qv hE (fun w hw => r_el32 ⟨hE, hw⟩ rfl K.u_uint32 rfl (by exact Views.own 0 rfl) (by omega)) rfl ?_
              clear hE a; intro a hE
              refine qv hE (fun w hw => r_bin ⟨hE, hw⟩ rfl rfl (B.add_u32)) rfl ?_
              clear hE a; intro a hE
              rw [show V.z + (rotr V.e 6 ^^^ rotr V.e 11 ^^^ rotr V.e 25) + (V.e &&& V.f ^^^ ~~~V.e &&& V.g) + shaK.getD i 0 + W.getD i 0 = shaT V (shaK.getD i 0) (W.getD i 0) from rfl] at hE
              refine qv hE (fun w hw => r_assign ⟨hE, hw⟩ rfl) rfl ?_
              clear hE a; intro a hE
              refine qnil hE ?_
              clear hE a; intro a w h
              refine c_then ?_
              refine c_seq (c_region ?_)
              refine wv h (r_move h rfl) rfl ?_
              clear h a w; intro a w h
              refine wl rfl (op_call h rfl K.go_ref01_turn (ref_turn s _ _ 2 (by omega) (by omega) _ h.2) rfl ?_)
              clear h a w; intro x a w hx h
              refine wv h (r_move h rfl) rfl ?_
              clear h a w; intro a w h
              refine wl rfl (op_call h rfl K.go_ref01_turn (ref_turn s _ _ 13 (by omega) (by omega) _ h.2) rfl ?_)
              clear h a w; intro x a w hx h
              refine wv h (r_bin h rfl rfl (B.xor_u32)) rfl ?_
              clear h a w; intro a w h
              refine wv h (r_move h rfl) rfl ?_
              clear h a w; intro a w h
              refine wl rfl (op_call h rfl K.go_ref01_turn (ref_turn s _ _ 22 (by omega) (by omega) _ h.2) rfl ?_)
              clear h a w; intro x a w hx h
              refine wv h (r_bin h rfl rfl (B.xor_u32)) rfl ?_
              clear h a w; intro a w h
              refine wv h (r_move h rfl) rfl ?_
              clear h a w; intro a w h
              refine wv h (r_move h rfl) rfl ?_
              clear h a w; intro a w h
              refine wv h (r_bin h rfl rfl (B.and_u32)) rfl ?_
              clear h a w; intro a w h
              refine wv h (r_move h rfl) rfl ?_
              clear h a w; intro a w h
              refine wv h (r_move h rfl) rfl ?_
              clear h a w; intro a w h
              refine wv h (r_bin h rfl rfl (B.and_u32)) rfl ?_
              clear h a w; intro a w h
              refine wv h (r_bin h rfl rfl (B.xor_u32)) rfl ?_
              clear h a w; intro a w h
              refine wv h (r_move h rfl) rfl ?_
              clear h a w; intro a w h
              refine wv h (r_move h rfl) rfl ?_
              clear h a w; intro a w h
              refine wv h (r_bin h rfl rfl (B.and_u32)) rfl ?_
              clear h a w; intro a w h
              refine wv h (r_bin h rfl rfl (B.xor_u32)) rfl ?_
              clear h a w; intro a w h
              refine wv h (r_bin h rfl rfl (B.add_u32)) rfl ?_
              clear h a w; intro a w h
              rw [show (rotr V.a 2 ^^^ rotr V.a 13 ^^^ rotr V.a 22) + (V.a &&& V.b ^^^ V.a &&& V.c ^^^ V.b &&& V.c) = shaU V from rfl] at h
              refine wv h (r_assign h rfl) rfl ?_
              clear h a w; intro a w h
              refine wnil (c_then ?_)
              refine c_seq (c_region ?_)
              refine wv h (r_move h rfl) rfl ?_
              clear h a w; intro a w h
              refine wv h (r_assign h rfl) rfl ?_
              clear h a w; intro a w h
              refine wnil (c_then ?_)
              refine c_seq (c_region ?_)
              refine wv h (r_move h rfl) rfl ?_
              clear h a w; intro a w h
              refine wv h (r_assign h rfl) rfl ?_
              clear h a w; intro a w h
              refine wnil (c_then ?_)
              refine c_seq (c_region ?_)
              refine wv h (r_move h rfl) rfl ?_
              clear h a w; intro a w h
              refine wv h (r_assign h rfl) rfl ?_
              clear h a w; intro a w h
              refine wnil (c_then ?_)
              refine c_seq (c_region ?_)
              refine wv h (r_move h rfl) rfl ?_
              clear h a w; intro a w h
              refine wv h (r_move h rfl) rfl ?_
              clear h a w; intro a w h
              refine wv h (r_bin h rfl rfl (B.add_u32)) rfl ?_
              clear h a w; intro a w h
              refine wv h (r_assign h rfl) rfl ?_
              clear h a w; intro a w h
              refine wnil (c_then ?_)
              refine c_seq (c_region ?_)
              refine wv h (r_move h rfl) rfl ?_
              clear h a w; intro a w h
              refine wv h (r_assign h rfl) rfl ?_
              clear h a w; intro a w h
              refine wnil (c_then ?_)
              refine c_seq (c_region ?_)
              refine wv h (r_move h rfl) rfl ?_
              clear h a w; intro a w h
              refine wv h (r_assign h rfl) rfl ?_
              clear h a w; intro a w h
              refine wnil (c_then ?_)
              refine c_seq (c_region ?_)
              refine wv h (r_move h rfl) rfl ?_
              clear h a w; intro a w h
              refine wv h (r_assign h rfl) rfl ?_
              clear h a w; intro a w h
              refine wnil (c_then ?_)
              refine c_region ?_
              refine wv h (r_move h rfl) rfl ?_
              clear h a w; intro a w h
              refine wv h (r_move h rfl) rfl ?_
              clear h a w; intro a w h
              refine wv h (r_bin h rfl rfl (B.add_u32)) rfl ?_
              clear h a w; intro a w h
              refine wv h (r_assign h rfl) rfl ?_
              clear h a w; intro a w h
              refine wnil ?_
              refine b_normal ?_
              refine c_then ?_
              refine c_region ?_
              refine wv h (r_move h rfl) rfl ?_
              clear h a w; intro a w h
              refine wv h (r_bin h rfl rfl (B.add_i64 (by omega) (by omega))) rfl ?_
              clear h a w; intro a w h
              refine wv h (r_assign h rfl) rfl ?_
              clear h a w; intro a w h
              refine wnil ?_
              refine ⟨i + 1, ?_, (by show i + 1 ≤ 64; omega), by show 64 - (i + 1) < 64 - i; omega⟩
              rw [hrd]
              exact h.keep [2, 3, 4, 5, 8, 9, 16, 17, 18, 19, 20, 21, 22, 23, 24]
             ·
              obtain rfl : i = 64 := by omega
              generalize shaRounds hh W 64 = V at h hblk
              refine c_exit ?_
              refine e_then ?_
              refine e_then ?_
              refine e_here ?_
              refine c_then ?_
              refine c_seq (c_region ?_)
              refine wv h (r_move h rfl) rfl ?_
              clear h a w; intro a w h
              refine wv h (r_move h rfl) rfl ?_
              clear h a w; intro a w h
              refine wv h (r_move h rfl) rfl ?_
              clear h a w; intro a w h
              refine wv h (r_move h rfl) rfl ?_
              clear h a w; intro a w h
              refine wv h (r_move h rfl) rfl ?_
              clear h a w; intro a w h
              refine wv h (r_move h rfl) rfl ?_
              clear h a w; intro a w h
              refine wv h (r_move h rfl) rfl ?_
              clear h a w; intro a w h
              refine wv h (r_move h rfl) rfl ?_
              clear h a w; intro a w h
              refine wl rfl (op_buildSlice h K.u_S_uint32 K.sz_uint32 K.z_uint32 rfl rfl rfl rfl rfl (by simp [Value.cells, bv, w32, w64, sv]) rfl ?_)
              clear h a w; intro b251 a w h
              obtain ⟨vl, hvl⟩ : ∃ vl, vl = Value.slice (some ⟨b251, 0, none⟩) 8 8 := ⟨_, rfl⟩
              replace h : St 284 s a w _ (OwnL w32 (.slice (some ⟨b251, 0, none⟩) 8 8) V.lst :: OwnL w32 v9 W :: M) := h.toOwnL V.lst (NF.zero _) rfl rfl rfl
              rw [← hvl, ← hM] at h
              clear hvl
              replace h := h.front 2 rfl
              replace h : St 284 s a w _ (OwnL w32 vh hh.lst :: OwnL w32 vl V.lst :: OwnL w32 v9 W :: OwnB va pad :: Gk) := h
              generalize hK0 : (OwnL w32 vl V.lst :: OwnL w32 v9 W :: OwnB va pad :: Gk) = K0 at h
              have hvl : Views K0 1 vl 8 (V.lst.map w32) := by rw [← hK0]; exact Views.own 0 rfl
              have hD : ∀ i < 8, ∃ x y, hh.lst[i]? = some x ∧ V.lst[i]? = some y ∧ (shaAdd hh V).lst[i]? = some (x + y) := by
                intro i hi
                have : i = 0 ∨ i = 1 ∨ i = 2 ∨ i = 3 ∨ i = 4 ∨ i = 5 ∨ i = 6 ∨ i = 7 := by omega
                rcases this with rfl | rfl | rfl | rfl | rfl | rfl | rfl | rfl <;> exact ⟨_, _, rfl, rfl, rfl⟩
              have hvll : V.lst.length = 8 := rfl
              have hadl : (shaAdd hh V).lst.length = 8 := rfl
              refine wv h (r_assign h rfl) rfl ?_
              clear h a w; intro a w h
              refine wnil (c_then ?_)
              refine c_seq (c_region ?_)
              refine wv h (r_assign h rfl) rfl ?_
              clear h a w; intro a w h
              rw [show hh.lst = (shaAdd hh V).lst.take 0 ++ hh.lst.drop 0 by simp] at h
              refine wnil (c_then ?_)
              refine c_block ?_
              refine c_loopX h (X := Nat) (fun i => [(2, .pointer (some ⟨b2, 0, none⟩)), (3, vk), (4, vh), (5, va), (8, .int .i64 ((64 * k : Nat) : Int)), (27, vl), (28, .int .i64 (i : Int))])
                (fun i => OwnL w32 vh ((shaAdd hh V).lst.take i ++ hh.lst.drop i) :: K0) (fun i => i ≤ 8) (fun i => 8 - i) 0 (h.keep [2, 3, 4, 5, 8, 27, 28]) (Nat.zero_le _) ?_
              clear h a w; intro i a w hx h
              as_aux_lemma =>
               refine c_seq ?_
               refine c_seq (c_region ?_)
               refine wv h (r_move h rfl) rfl ?_
               clear h a w; intro a w h
               refine wv h (r_bin h rfl rfl (B.lss_int)) rfl ?_
               clear h a w; intro a w h
               refine wnil (c_then ?_)
               refine c_condD h rfl (fun ht8 => ?_) (fun ht8 => ?_)
               ·
                obtain ⟨x, y, hx1, hx2, hx3⟩ := hD i (by omega)
                have hov := arr_over (shaAdd hh V).lst hh.lst _ i hx3 rfl
                have hxx : ((shaAdd hh V).lst.take i ++ hh.lst.drop i).getD i 0 = x := by
                  have hl : ((shaAdd hh V).lst.take i).length = i := by rw [List.length_take]; omega
                  rw [List.getD_eq_getElem?_getD, List.getElem?_append_right (by omega), hl, Nat.sub_self, List.getElem?_drop]; simpa using by rw [hx1]; rfl
                have hyy : V.lst.getD i 0 = y := by rw [List.getD_eq_getElem?_getD, hx2]; rfl
                refine c_skip ?_
                refine c_then ?_
                refine c_seq ?_
                refine c_block ?_
                refine c_tail 10 K.mixed (by kernel_rfl) h ?_
                clear h a w; intro a w h
                refine yv h (r_move h rfl) rfl ?_
                clear h a; intro a h
                refine yv h (r_move h rfl) rfl ?_
                clear h a; intro a h
                refine yv h (r_elP h rfl rfl K.u_S_uint32 K.sz_uint32 (by exact Views.own 0 rfl) (by omega) (by (simp; omega))) rfl ?_
                clear h a; intro a h
                refine yv h (r_el32 h rfl K.u_uint32 rfl (by exact Views.own 0 rfl) (by (simp; omega))) rfl ?_
                clear h a; intro a h
                rw [hxx] at h
                refine yv h (r_move h rfl) rfl ?_
                clear h a; intro a h
                refine yv h (r_move h rfl) rfl ?_
                clear h a; intro a h
                refine yv h (r_elP h rfl rfl K.u_S_uint32 K.sz_uint32 (by exact Views.cons (by assumption) _) (by omega) (by omega)) rfl ?_
                clear h a; intro a h
                refine yv h (r_el32 h rfl K.u_uint32 rfl (by exact Views.cons (by assumption) _) (by omega)) rfl ?_
                clear h a; intro a h
                rw [hyy] at h
                refine yv h (r_bin h rfl rfl (B.add_u32)) rfl ?_
                clear h a; intro a h
                refine yv h (r_elP h rfl rfl K.u_S_uint32 K.sz_uint32 (by exact Views.own 0 rfl) (by omega) (by (simp; omega))) rfl ?_
                clear h a; intro a h
                refine ynil ?_
                refine wl rfl (op_storeL (enc := w32) (fun _ => rfl) h rfl rfl K.sz_uint32 0 rfl (by (simp; omega)) ?_)
                clear h a w; intro a w h
                (simp only [List.set_cons_zero, List.set_cons_succ] at h)
                rw [hov] at h
                refine wnil ?_
                refine b_normal ?_
                refine c_then ?_
                refine c_region ?_
                refine wv h (r_move h rfl) rfl ?_
                clear h a w; intro a w h
                refine wv h (r_bin h rfl rfl (B.add_i64 (by omega) (by omega))) rfl ?_
                clear h a w; intro a w h
                refine wv h (r_assign h rfl) rfl ?_
                clear h a w; intro a w h
                refine wnil ?_
                exact ⟨i + 1, h.keep [2, 3, 4, 5, 8, 27, 28], (by show i + 1 ≤ 8; omega), by show 8 - (i + 1) < 8 - i; omega⟩
               ·
                obtain rfl : i = 8 := by omega
                rw [show (shaAdd hh V).lst.take 8 ++ hh.lst.drop 8 = (shaAdd hh V).lst from rfl, ← hK0, ← hblk] at h
                replace h := (h.rid 1).rid 1
                replace h : St 284 s a w _ (OwnL w32 vh (shaBlock hh blk).lst :: OwnB va pad :: Gk) := h
                refine c_exit ?_
                refine e_then ?_
                refine e_then ?_
                refine e_here ?_
                refine b_normal ?_
                refine c_then ?_
                refine c_region ?_
                refine wv h (r_move h rfl) rfl ?_
                clear h a w; intro a w h
                refine wv h (r_bin h rfl rfl (B.add_i64 (by omega) (by omega))) rfl ?_
                clear h a w; intro a w h
                refine wv h (r_assign h rfl) rfl ?_
                clear h a w; intro a w h
                refine wnil ?_
                rw [show ((64 * k : Nat) : Int) + 64 = ((64 * (k + 1) : Nat) : Int) by omega] at h
                refine ⟨(k + 1, shaBlock hh blk), h.keep [2, 3, 4, 5, 8], ⟨?_, ?_⟩, ?_⟩
                · show 64 * (k + 1) ≤ pad.length; omega
                · show shaAll _ _ _ = R; rw [← hst]; exact hx2
                · show pad.length - 64 * (k + 1) < pad.length - 64 * k; omega
       ·
        have h0 : (pad.drop (64 * k)).length = 0 := by rw [List.length_drop]; omega
        rw [h0] at hx2
        obtain rfl : hh = R := hx2
        have hDl : (hh.lst.flatMap shaBytes).length = 32 := by simp [Sha8.lst, shaBytes]
        have hget := sha_get1 hh
        have hll : hh.lst.length = 8 := rfl
        rw [← hGk] at h
        generalize hDD : hh.lst.flatMap shaBytes = D at *
        refine c_exit ?_
        refine e_then ?_
        refine e_then ?_
        refine e_here ?_
        refine c_then ?_
        refine c_seq (c_region ?_)
        refine wl rfl (op_alloc h K.z_A32_uint8 rfl ?_)
        clear h a w; intro b29 a w h
        rw [show (Value.agg (Array.replicate 32 (Value.int .u8 0))).cells = arr8 (List.replicate 32 0) from (arr8_zero 32).symm] at h
        generalize hH : (OwnL w32 vh hh.lst :: OwnB va pad :: OwnL w32 vk shaK :: Blk b2 (.cells (arr8 (List.replicate 32 0)) t_A32_uint8) :: F) = H at h
        have hvH : Views H 1 vh 8 (hh.lst.map w32) := by rw [← hH]; exact Views.own 0 rfl
        rw [show Blk b29 (Obj.cells (arr8 (List.replicate 32 0)) t_A32_uint8) = Blk b29 (.cells (arr8 (D.take 0 ++ List.replicate (32 - 0) 0)) t_A32_uint8) from rfl] at h
        refine wnil (c_then ?_)
        refine c_seq ?_
        refine c_seq (c_region ?_)
        refine wv h (r_assign h rfl) rfl ?_
        clear h a w; intro a w h
        refine wnil (c_then ?_)
        refine c_block ?_
        refine c_loopX h (X := Nat) (fun i => [(2, .pointer (some ⟨b2, 0, none⟩)), (4, vh), (29, .pointer (some ⟨b29, 0, none⟩)), (30, .int .i64 (i : Int))])
          (fun i => Blk b29 (.cells (arr8 (D.take i ++ List.replicate (32 - i) 0)) t_A32_uint8) :: H) (fun i => i ≤ 32) (fun i => 32 - i) 0 (h.keep [2, 4, 29, 30]) (Nat.zero_le _) ?_
        clear h a w; intro i a w hx h
        as_aux_lemma =>
         refine c_seq ?_
         refine c_seq (c_region ?_)
         refine wv h (r_move h rfl) rfl ?_
         clear h a w; intro a w h
         refine wv h (r_bin h rfl rfl (B.lss_int)) rfl ?_
         clear h a w; intro a w h
         refine wnil (c_then ?_)
         refine c_condD h rfl (fun ht9 => ?_) (fun ht9 => ?_)
         ·
          have hgi := hget i (by omega)
          have hfl := arr_fill D 0 _ _ hgi
          rw [hDl] at hfl
          refine c_skip ?_
          refine c_then ?_
          refine c_seq ?_
          refine c_block ?_
          refine c_region ?_
          refine wv h (r_move h rfl) rfl ?_
          clear h a w; intro a w h
          refine wv h (r_move h rfl) rfl ?_
          clear h a w; intro a w h
          refine wv h (r_move h rfl) rfl ?_
          clear h a w; intro a w h
          refine wv h (r_bin h rfl rfl (B.quo_i64 (by omega) (by omega) (by omega))) rfl ?_
          clear h a w; intro a w h
          refine wv h (r_elP h rfl rfl K.u_S_uint32 K.sz_uint32 (by exact Views.cons (by assumption) _) (by omega) (by omega)) rfl ?_
          clear h a w; intro a w h
          refine wv h (r_el32 h rfl K.u_uint32 rfl (by exact Views.cons (by assumption) _) (by omega)) rfl ?_
          clear h a w; intro a w h
          refine wv h (r_move h rfl) rfl ?_
          clear h a w; intro a w h
          refine wv h (r_bin h rfl rfl (B.rem_i64 (by omega) (by omega))) rfl ?_
          clear h a w; intro a w h
          refine wv h (r_bin h rfl rfl (B.mul_i64 (by omega) (by omega))) rfl ?_
          clear h a w; intro a w h
          refine wv h (r_bin h rfl rfl (B.sub_i64 (by omega) (by omega))) rfl ?_
          clear h a w; intro a w h
          refine wv h (r_bin h rfl rfl (B.shr_u32 (by omega))) rfl ?_
          clear h a w; intro a w h
          refine wv h (r_conv h rfl K.u_uint32 K.u_uint8 (C.u8_u32) ) rfl ?_
          clear h a w; intro a w h
          rw [toUInt8_ofNat32, show (24 - 8 * ((i : Int) % 4)).toNat = 24 - 8 * (i % 4) by omega] at h
          refine wv h (r_arP h rfl rfl K.u_A32_uint8 K.sz_uint8 (by omega) (by omega)) rfl ?_
          clear h a w; intro a w h
          refine wl rfl (op_store8 h rfl rfl K.sz_uint8 0 rfl (by (simp; omega)) ?_)
          clear h a w; intro a w h
          (simp only [List.set_cons_zero, List.set_cons_succ] at h)
          rw [hfl] at h
          refine wnil ?_
          refine b_normal ?_
          refine c_then ?_
          refine c_region ?_
          refine wv h (r_move h rfl) rfl ?_
          clear h a w; intro a w h
          refine wv h (r_bin h rfl rfl (B.add_i64 (by omega) (by omega))) rfl ?_
          clear h a w; intro a w h
          refine wv h (r_assign h rfl) rfl ?_
          clear h a w; intro a w h
          refine wnil ?_
          exact ⟨i + 1, h.keep [2, 4, 29, 30], (by show i + 1 ≤ 32; omega), by show 32 - (i + 1) < 32 - i; omega⟩
         ·
          obtain rfl : i = 32 := by omega
          rw [← hH, show D.take 32 ++ List.replicate (32 - 32) (0 : UInt8) = sha p by rw [hsha, List.take_of_length_le (by omega)]; simp] at h
          refine c_exit ?_
          refine e_then ?_
          refine e_then ?_
          refine e_here ?_
          refine c_then ?_
          refine c_seq (c_region ?_)
          refine wv h (r_loadA8 h rfl K.u_A32_uint8 rfl K.sz_A32_uint8 0 rfl (by rfl)) rfl ?_
          clear h a w; intro a w h
          refine wl rfl (op_storeA8 h rfl rfl K.sz_A32_uint8 (sha_len p) 4 rfl rfl ?_)
          clear h a w; intro a w h
          simp only [List.set_cons_zero, List.set_cons_succ] at h
          refine wnil (c_then ?_)
          refine c_ret ?_
          exact retc h rfl rfl K.u_A32_uint8 rfl K.sz_A32_uint8 4 rfl (by rw [arr8_size, sha_len]) ⟨(), rfl, h.2.drop 5, trivial⟩
end Go.Proofs.K

/- The reference's packs: objects by their keys; a pack. -/
namespace Go.Sl
theorem key_eq (p q : List UInt8) : (decide (sha p = sha q)) = decide (keyO p = keyO q) := by
  by_cases h : sha p = sha q
  · rw [decide_eq_true h, decide_eq_true (show keyO p = keyO q from BA.ext' h)]
  · rw [decide_eq_false h, decide_eq_false (fun e => h (congrArg BA.val e))]
theorem slv_one (x : SlV) : x.v.oneCell' = true := rfl
/-- the first so many that are moved up by one -/
def gapL (O : List SlV) (j : Nat) (d : SlV) : List SlV := O.take j ++ d :: O.drop j
theorem gapL_len (O : List SlV) (j : Nat) (d : SlV) : (gapL O j d).length = O.length + 1 := by simp [gapL]; omega
theorem gapL_end (O : List SlV) (d : SlV) : O ++ [d] = gapL O O.length d := by simp [gapL]
theorem gapL_get {O : List SlV} {j : Nat} {d y : SlV} (hy : O[j]? = some y) : (gapL O (j + 1) d)[j]? = some y := by
  have hlt := (List.getElem?_eq_some_iff.1 hy).1
  rw [gapL, List.getElem?_append_left (by simp; omega), List.getElem?_take_of_lt (by omega), hy]
theorem gapL_set {O : List SlV} {j : Nat} (d y : SlV) (hj : j ≤ O.length) : (gapL O j d).set j y = gapL O j y := by
  have : (O.take j).length = j := by simp; omega
  rw [gapL, List.set_append_right _ _ (by omega), this, Nat.sub_self]; rfl
theorem gapL_down {O : List SlV} {j : Nat} {y : SlV} (hy : O[j]? = some y) : gapL O (j + 1) y = gapL O j y := by
  obtain ⟨hlt, e⟩ := List.getElem?_eq_some_iff.1 hy
  unfold gapL
  rw [List.take_add_one, hy, List.drop_eq_getElem_cons hlt, e]; simp
end Go.Sl
namespace Go.Proofs.K
open Go.Sl
attribute [local irreducible] Go.Sl.Own Go.Sl.Blk Go.Sl.Sep Go.Sl.Ex Go.Sl.Fact
theorem ref_Sorted (s w : World) (v : Value) (xs : List SlV) (F : List HItem) (hv : Views F 1 v xs.length (xs.flatMap cellsS)) (hp : ∀ x ∈ xs, ViewsB F x.v x.p ∧ x.p.length ≤ 2147483648) (hl : xs.length ≤ 4000000) (hs : Sat s w F) :
    Calls P n_ref15_Sorted #[v] w (Ret s (fun v' : Value => v') (fun v' => OwnL SlV.v v' (srtx xs) :: F) (fun _ => True)) := by
  refine enter K.fn_ref15_Sorted rfl K.nt_ref15_Sorted rfl hs ?_
  clear hs w; intro a w h
  refine c_seq (c_region ?_)
  refine wv h (r_assign h rfl) rfl ?_
  clear h a w; intro a w h
  refine wnil (c_then ?_)
  refine c_seq (c_region ?_)
  refine wv h (r_assign h rfl) rfl ?_
  clear h a w; intro a w h
  refine wnil (c_then ?_)
  refine c_seq ?_
  refine c_seq (c_region ?_)
  refine wv h (r_assign h rfl) rfl ?_
  clear h a w; intro a w h
  refine wnil (c_then ?_)
  refine c_block ?_
  replace h := h.addNilL (enc := SlV.v)
  refine c_loop (X := Nat × Value) (fun z => [(0, v), (3, z.2), (4, .int .i64 (z.1 : Int))]) (fun z => OwnL SlV.v z.2 (srtx (xs.take z.1)) :: F) (fun z => z.1 ≤ xs.length) (fun z => xs.length - z.1) (0, .slice none 0 0) (h.keep [0, 3, 4]) (Nat.zero_le _) ?_
  clear h a w; intro z a w hz h
  obtain ⟨i, ov⟩ := z
  simp only at hz h
  as_aux_lemma =>
   refine c_seq ?_
   refine c_seq (c_region ?_)
   refine wv h (r_move h rfl) rfl ?_
   clear h a w; intro a w h
   refine wv h (r_move h rfl) rfl ?_
   clear h a w; intro a w h
   refine wv h (r_lenV h rfl K.u_S_S_uint8 (by exact Views.of_drop 1 (by assumption))) rfl ?_
   clear h a w; intro a w h
   refine wv h (r_bin h rfl rfl (B.lss_int)) rfl ?_
   clear h a w; intro a w h
   refine wnil (c_then ?_)
   refine c_condP (p := i < xs.length) h rfl (by simp) (fun ht1 => ?_) (fun ht1 => ?_)
   ·
    obtain ⟨x, hx⟩ : ∃ x, xs[i]? = some x := ⟨_, List.getElem?_eq_getElem ht1⟩
    obtain ⟨hxv, hxl⟩ := hp x (List.mem_of_getElem? hx)
    have tx : xs.take (i + 1) = xs.take i ++ [x] := by rw [List.take_add_one, hx]; rfl
    have hxc : (xs.flatMap cellsS)[i * 1]? = some x.v := by rw [flatS, Nat.mul_one, List.getElem?_map, hx]; rfl
    obtain ⟨O, hO⟩ : ∃ O, O = srtx (xs.take i) := ⟨_, rfl⟩
    have hOs : SS (O.map itm) := by rw [hO]; exact srtx_ss _
    have hOm : ∀ y ∈ O, ViewsB F y.v y.p ∧ y.p.length ≤ 2147483648 := fun y hy => hp y (List.mem_of_mem_take (srtx_mem (hO ▸ hy)))
    have hOl : O.length ≤ i := by rw [hO]; have := srtx_len (xs.take i); rw [List.length_take] at this; omega
    have hth : hasK O (keyO x.p) = true → srtx (xs.take (i + 1)) = O := fun q => by rw [tx, hO]; exact srtx_there (hO ▸ q)
    have hpt : ∀ q, hasK O (keyO x.p) = false → AtI O x O.length q → srtx (xs.take (i + 1)) = gapL O q x := fun q h1 h2 => by
      rw [tx]; subst hO
      exact srtx_put h1 h2.less (fun k y hk hy => h2.more k y hk (List.getElem?_eq_some_iff.1 hy).1 hy)
    rw [← hO] at h
    clear hO tx
    refine c_skip ?_
    refine c_then ?_
    refine c_seq ?_
    refine c_block ?_
    refine c_seq (c_region ?_)
    refine wv h (r_move h rfl) rfl ?_
    clear h a w; intro a w h
    refine wv h (r_move h rfl) rfl ?_
    clear h a w; intro a w h
    refine wv h (r_elPv h rfl rfl K.u_S_S_uint8 K.sz_S_uint8 (hv.cons _) i rfl ht1) rfl ?_
    clear h a w; intro a w h
    refine wv h (r_elG h rfl K.u_S_uint8 rfl (hv.cons _) hxc) rfl ?_
    clear h a w; intro a w h
    refine wl rfl (op_call h rfl K.go_ref01_Stamp (ref_Stamp s _ x.v x.p _ (hxv.cons _) hxl h.2) rfl ?_)
    clear h a w; intro z21 a w hz21 h
    have hsl := sha_len x.p
    refine wl rfl (op_alloc h K.z_A32_uint8 rfl ?_)
    clear h a w; intro b5 a w h
    rw [show (Value.agg (Array.replicate 32 (Value.int .u8 0))).cells = arr8 (List.replicate 32 0) from (arr8_zero 32).symm] at h
    refine wl rfl (op_storeA8 h rfl rfl K.sz_A32_uint8 (by rfl) 0 rfl (by rfl) ?_)
    clear h a w; intro a w h
    (simp only [List.set_cons_zero, List.set_cons_succ] at h)
    refine wnil (c_then ?_)
    refine c_seq (c_region ?_)
    refine wv h (r_assign h rfl) rfl ?_
    clear h a w; intro a w h
    refine wnil (c_then ?_)
    refine c_seq (c_region ?_)
    refine wv h (r_assign h rfl) rfl ?_
    clear h a w; intro a w h
    refine wnil (c_then ?_)
    refine c_seq ?_
    refine c_seq (c_region ?_)
    refine wv h (r_assign h rfl) rfl ?_
    clear h a w; intro a w h
    refine wnil (c_then ?_)
    refine c_block ?_
    refine c_loop (X := Nat × Nat) (fun z => [(0, v), (3, ov), (4, .int .i64 (i : Int)), (5, bp b5), (6, .int .i64 (z.2 : Int)), (7, .bool (hasK (O.take z.1) (keyO x.p))), (8, .int .i64 (z.1 : Int))]) (fun _ => Blk b5 (.cells (arr8 (sha x.p)) t_A32_uint8) :: OwnL SlV.v ov O :: F) (fun z => z.1 ≤ O.length ∧ AtI O x z.1 z.2) (fun z => O.length - z.1) (0, 0) (h.keep [0, 3, 4, 5, 6, 7, 8]) ⟨Nat.zero_le _, AtI.zero O x⟩ ?_
    clear h a w; intro z a w hz h
    obtain ⟨j, at_⟩ := z
    obtain ⟨z1, z2⟩ := hz
    simp only at z1 z2 h
    as_aux_lemma =>
     refine c_seq ?_
     refine c_seq (c_region ?_)
     refine wv h (r_move h rfl) rfl ?_
     clear h a w; intro a w h
     refine wv h (r_move h rfl) rfl ?_
     clear h a w; intro a w h
     refine wv h (r_lenV h rfl K.u_S_S_uint8 (by exact Views.own 1 rfl)) rfl ?_
     clear h a w; intro a w h
     refine wv h (r_bin h rfl rfl (B.lss_int)) rfl ?_
     clear h a w; intro a w h
     refine wnil (c_then ?_)
     refine c_condP (p := j < O.length) h rfl (by simp) (fun ht2 => ?_) (fun ht2 => ?_)
     ·
      obtain ⟨y, hy⟩ : ∃ y, O[j]? = some y := ⟨_, List.getElem?_eq_getElem ht2⟩
      obtain ⟨hyv, hyl⟩ := hOm y (List.mem_of_getElem? hy)
      have hyc : (O.map SlV.v)[j * 1]? = some y.v := by rw [Nat.mul_one, List.getElem?_map, hy]; rfl
      have hsm := sha_len y.p
      have htk : hasK (O.take (j + 1)) (keyO x.p) = (hasK (O.take j) (keyO x.p) || decide (sha y.p = sha x.p)) := by rw [List.take_add_one, hy]; simp [hasK, key_eq]
      refine c_skip ?_
      refine c_then ?_
      refine c_seq ?_
      refine c_block ?_
      refine c_seq (c_region ?_)
      refine wv h (r_move h rfl) rfl ?_
      clear h a w; intro a w h
      refine wv h (r_move h rfl) rfl ?_
      clear h a w; intro a w h
      refine wv h (r_elPv h rfl rfl K.u_S_S_uint8 K.sz_S_uint8 (Views.own 1 rfl) j rfl ht2) rfl ?_
      clear h a w; intro a w h
      refine wv h (r_elG h rfl K.u_S_uint8 rfl (Views.own 1 rfl) hyc) rfl ?_
      clear h a w; intro a w h
      refine wl rfl (op_call h rfl K.go_ref01_Stamp (ref_Stamp s _ y.v y.p _ ((hyv.cons _).cons _) hyl h.2) rfl ?_)
      clear h a w; intro z32 a w hz32 h
      refine wl rfl (op_alloc h K.z_A32_uint8 rfl ?_)
      clear h a w; intro b9 a w h
      rw [show (Value.agg (Array.replicate 32 (Value.int .u8 0))).cells = arr8 (List.replicate 32 0) from (arr8_zero 32).symm] at h
      refine wl rfl (op_storeA8 h rfl rfl K.sz_A32_uint8 (by rfl) 0 rfl (by rfl) ?_)
      clear h a w; intro a w h
      (simp only [List.set_cons_zero, List.set_cons_succ] at h)
      refine wnil (c_then ?_)
      refine c_seq ?_
      refine c_seq (c_draw K.mixed (by kernel_rfl) h ?_)
      clear h a w; intro a hE
      refine qv hE (fun w hw => r_sliceA ⟨hE, hw⟩ rfl K.u_A32_uint8 K.sz_uint8 rfl) rfl ?_
      clear hE a; intro a hE
      refine qv hE (fun w hw => r_b2sb ⟨hE, hw⟩ rfl K.u_S_uint8 K.u_uint8 K.u_string (by exact ViewsB.arr 0 rfl (by assumption) (Nat.le_refl _) (by simp [maxLen]))) rfl ?_
      clear hE a; intro a hE
      refine qv hE (fun w hw => r_sliceA ⟨hE, hw⟩ rfl K.u_A32_uint8 K.sz_uint8 rfl) rfl ?_
      clear hE a; intro a hE
      refine qv hE (fun w hw => r_b2sb ⟨hE, hw⟩ rfl K.u_S_uint8 K.u_uint8 K.u_string (by exact ViewsB.arr 1 rfl (by assumption) (Nat.le_refl _) (by simp [maxLen]))) rfl ?_
      clear hE a; intro a hE
      refine qv hE (fun w hw => r_strless ⟨hE, hw⟩ rfl rfl) rfl ?_
      clear hE a; intro a hE
      refine qnil hE ?_
      clear hE a; intro a w h
      refine c_then ?_
      refine c_condP (p := lt (itm y) (itm x) = true) h rfl (by simp [lt, itm, keyO]) (fun ht3 => ?_) (fun ht3 => ?_)
      ·
       as_aux_lemma =>
        refine c_region ?_
        refine wv h (r_move h rfl) rfl ?_
        clear h a w; intro a w h
        refine wv h (r_bin h rfl rfl (B.add_i64 (by omega) (by omega))) rfl ?_
        clear h a w; intro a w h
        refine wv h (r_assign h rfl) rfl ?_
        clear h a w; intro a w h
        refine wnil ?_
        refine c_then ?_
        refine c_region ?_
        refine wv h (r_move h rfl) rfl ?_
        clear h a w; intro a w h
        refine wv h (r_move h rfl) rfl ?_
        clear h a w; intro a w h
        refine wvG h (by exact .f rfl) (fun hg => by (have hg2 := hg; (simp only [Bool.and_eq_true, Bool.or_eq_true, Bool.not_eq_true', decide_eq_true_eq, decide_eq_false_iff_not] at hg2)); exact r_loadA8 h rfl K.u_A32_uint8 rfl K.sz_A32_uint8 0 rfl (by rfl)) rfl ?_
        clear h a w; intro a w h
        refine wvG h (by exact .f rfl) (fun hg => by (simp only [↓gval_on hg, ↓gval_and hg] at h); (have hg2 := hg; (simp only [Bool.and_eq_true, Bool.or_eq_true, Bool.not_eq_true', decide_eq_true_eq, decide_eq_false_iff_not] at hg2)); exact r_loadA8 h rfl K.u_A32_uint8 rfl K.sz_A32_uint8 1 rfl (by rfl)) rfl ?_
        clear h a w; intro a w h
        refine wvG h (by exact .f rfl) (fun hg => by (simp only [↓gval_on hg, ↓gval_and hg] at h); (have hg2 := hg; (simp only [Bool.and_eq_true, Bool.or_eq_true, Bool.not_eq_true', decide_eq_true_eq, decide_eq_false_iff_not] at hg2)); exact r_arreq h rfl rfl K.u_A32_uint8 K.u_uint8 K.sz_uint8 (by kernel_rfl) (by rfl) (by rfl)) rfl ?_
        clear h a w; intro a w h
        refine wv h (r_pickO h rfl rfl rfl) rfl ?_
        clear h a w; intro a w h
        refine wv h (r_assign h rfl) rfl ?_
        clear h a w; intro a w h
        refine wnil ?_
        refine b_normal ?_
        refine c_then ?_
        refine c_region ?_
        refine wv h (r_move h rfl) rfl ?_
        clear h a w; intro a w h
        refine wv h (r_bin h rfl rfl (B.add_i64 (by omega) (by omega))) rfl ?_
        clear h a w; intro a w h
        refine wv h (r_assign h rfl) rfl ?_
        clear h a w; intro a w h
        refine wnil ?_
        rw [← htk] at h
        exact ⟨(j + 1, j + 1), (h.keep [0, 3, 4, 5, 6, 7, 8]).drop 1, ⟨ht2, z2.yes hOs hy ht3⟩, by simp only; omega⟩
      ·
       refine c_skip ?_
       refine c_then ?_
       refine c_region ?_
       refine wv h (r_move h rfl) rfl ?_
       clear h a w; intro a w h
       refine wv h (r_move h rfl) rfl ?_
       clear h a w; intro a w h
       refine wvG h (by exact .f rfl) (fun hg => by (have hg2 := hg; (simp only [Bool.and_eq_true, Bool.or_eq_true, Bool.not_eq_true', decide_eq_true_eq, decide_eq_false_iff_not] at hg2)); exact r_loadA8 h rfl K.u_A32_uint8 rfl K.sz_A32_uint8 0 rfl (by rfl)) rfl ?_
       clear h a w; intro a w h
       refine wvG h (by exact .f rfl) (fun hg => by (simp only [↓gval_on hg, ↓gval_and hg] at h); (have hg2 := hg; (simp only [Bool.and_eq_true, Bool.or_eq_true, Bool.not_eq_true', decide_eq_true_eq, decide_eq_false_iff_not] at hg2)); exact r_loadA8 h rfl K.u_A32_uint8 rfl K.sz_A32_uint8 1 rfl (by rfl)) rfl ?_
       clear h a w; intro a w h
       refine wvG h (by exact .f rfl) (fun hg => by (simp only [↓gval_on hg, ↓gval_and hg] at h); (have hg2 := hg; (simp only [Bool.and_eq_true, Bool.or_eq_true, Bool.not_eq_true', decide_eq_true_eq, decide_eq_false_iff_not] at hg2)); exact r_arreq h rfl rfl K.u_A32_uint8 K.u_uint8 K.sz_uint8 (by kernel_rfl) (by rfl) (by rfl)) rfl ?_
       clear h a w; intro a w h
       refine wv h (r_pickO h rfl rfl rfl) rfl ?_
       clear h a w; intro a w h
       refine wv h (r_assign h rfl) rfl ?_
       clear h a w; intro a w h
       refine wnil ?_
       refine b_normal ?_
       refine c_then ?_
       refine c_region ?_
       refine wv h (r_move h rfl) rfl ?_
       clear h a w; intro a w h
       refine wv h (r_bin h rfl rfl (B.add_i64 (by omega) (by omega))) rfl ?_
       clear h a w; intro a w h
       refine wv h (r_assign h rfl) rfl ?_
       clear h a w; intro a w h
       refine wnil ?_
       rw [← htk] at h
       exact ⟨(j + 1, at_), (h.keep [0, 3, 4, 5, 6, 7, 8]).drop 1, ⟨ht2, z2.no hy (by simpa using ht3)⟩, by simp only; omega⟩
     ·
      obtain rfl : j = O.length := by omega
      rw [List.take_length] at h
      replace h := h.mem (fun q => q.tail)
      refine c_exit ?_
      refine e_then ?_
      refine e_then ?_
      refine e_here ?_
      refine c_then ?_
      refine c_seq ?_
      refine c_seq (c_region ?_)
      refine wv h (r_move h rfl) rfl ?_
      clear h a w; intro a w h
      refine wnil (c_then ?_)
      refine c_condP (p := hasK O (keyO x.p) = true) h rfl Iff.rfl (fun ht4 => ?_) (fun ht4 => ?_)
      ·
       as_aux_lemma =>
        refine c_exit ?_
        refine e_then ?_
        refine e_here ?_
        refine c_then ?_
        refine c_region ?_
        refine wv h (r_move h rfl) rfl ?_
        clear h a w; intro a w h
        refine wv h (r_bin h rfl rfl (B.add_i64 (by omega) (by omega))) rfl ?_
        clear h a w; intro a w h
        refine wv h (r_assign h rfl) rfl ?_
        clear h a w; intro a w h
        refine wnil ?_
        have e : srtx (xs.take (i + 1)) = O := hth ht4
        refine ⟨(i + 1, ov), ?_, ht1, by simp only; omega⟩
        show St 74 s a w _ (OwnL SlV.v ov (srtx (xs.take (i + 1))) :: F)
        rw [e]
        exact h.keep [0, 3, 4]
      ·
       have hnk : hasK O (keyO x.p) = false := by simpa using ht4
       refine c_skip ?_
       refine c_then ?_
       refine c_seq (c_region ?_)
       refine wv h (r_move h rfl) rfl ?_
       clear h a w; intro a w h
       refine wl rfl (op_buildO h K.u_S_S_uint8 K.sz_S_uint8 K.z_S_uint8 rfl rfl rfl rfl (by simp only [List.mem_cons, List.not_mem_nil, or_false, forall_eq_or_imp, forall_eq]; (repeat' apply And.intro) <;> rfl) rfl ?_)
       clear h a w; intro b48 a w h
       refine wl rfl (op_appendL1 (enc := SlV.v) (u := ⟨none, 0, 0, []⟩) h rfl rfl rfl K.u_S_S_uint8 K.sz_S_uint8 K.z_S_uint8 rfl rfl 0 rfl (by omega) rfl ?_)
       clear h a w; intro v49 a w h
       simp only [List.set_cons_zero] at h
       rw [gapL_end] at h
       have hgl0 := gapL_len O O.length ⟨none, 0, 0, []⟩
       refine wv h (r_assign h rfl) rfl ?_
       clear h a w; intro a w h
       refine wnil (c_then ?_)
       refine c_seq ?_
       refine c_seq (c_region ?_)
       refine wv h (r_move h rfl) rfl ?_
       clear h a w; intro a w h
       refine wv h (r_lenV h rfl K.u_S_S_uint8 (by exact Views.own 0 rfl)) rfl ?_
       clear h a w; intro a w h
       refine wv h (r_bin h rfl rfl (B.sub_i64 (by omega) (by omega))) rfl ?_
       clear h a w; intro a w h
       rw [show ((gapL O O.length ⟨none, 0, 0, []⟩).length : Int) - 1 = (O.length : Int) by omega] at h
       refine wv h (r_assign h rfl) rfl ?_
       clear h a w; intro a w h
       refine wnil (c_then ?_)
       refine c_block ?_
       refine c_loop (X := Nat × SlV) (fun z => [(0, v), (3, v49), (4, .int .i64 (i : Int)), (6, .int .i64 (at_ : Int)), (10, .int .i64 (z.1 : Int))]) (fun z => OwnL SlV.v v49 (gapL O z.1 z.2) :: F) (fun z => at_ ≤ z.1 ∧ z.1 ≤ O.length) (fun z => z.1) (O.length, ⟨none, 0, 0, []⟩) (h.keep [0, 3, 4, 6, 10]) ⟨z2.le, Nat.le_refl _⟩ ?_
       clear h a w; intro z a w hz h
       obtain ⟨j, d⟩ := z
       obtain ⟨y1, y2⟩ := hz
       simp only at y1 y2 h
       have hgl := gapL_len O j d
       as_aux_lemma =>
        refine c_seq ?_
        refine c_seq (c_region ?_)
        refine wv h (r_move h rfl) rfl ?_
        clear h a w; intro a w h
        refine wv h (r_move h rfl) rfl ?_
        clear h a w; intro a w h
        refine wv h (r_bin h rfl rfl (B.gtr_int)) rfl ?_
        clear h a w; intro a w h
        refine wnil (c_then ?_)
        refine c_condP (p := at_ < j) h rfl (by simp) (fun ht5 => ?_) (fun ht5 => ?_)
        ·
         obtain ⟨k, rfl⟩ : ∃ k, j = k + 1 := ⟨j - 1, by omega⟩
         obtain ⟨y, hy⟩ : ∃ y, O[k]? = some y := ⟨_, List.getElem?_eq_getElem (by omega)⟩
         have hyc : ((gapL O (k + 1) d).map SlV.v)[k * 1]? = some y.v := by rw [Nat.mul_one, List.getElem?_map, gapL_get hy]; rfl
         refine c_skip ?_
         refine c_then ?_
         refine c_seq ?_
         refine c_block ?_
         refine c_region ?_
         refine wv h (r_move h rfl) rfl ?_
         clear h a w; intro a w h
         refine wv h (r_move h rfl) rfl ?_
         clear h a w; intro a w h
         refine wv h (r_move h rfl) rfl ?_
         clear h a w; intro a w h
         refine wv h (r_move h rfl) rfl ?_
         clear h a w; intro a w h
         refine wv h (r_bin h rfl rfl (B.sub_i64 (by omega) (by omega))) rfl ?_
         clear h a w; intro a w h
         refine wv h (r_elPv h rfl rfl K.u_S_S_uint8 K.sz_S_uint8 (Views.own 0 rfl) k (by omega) (by omega)) rfl ?_
         clear h a w; intro a w h
         refine wv h (r_elG h rfl K.u_S_uint8 rfl (Views.own 0 rfl) hyc) rfl ?_
         clear h a w; intro a w h
         refine wv h (r_elPv h rfl rfl K.u_S_S_uint8 K.sz_S_uint8 (Views.own 0 rfl) (k + 1) rfl (by omega)) rfl ?_
         clear h a w; intro a w h
         refine wl rfl (op_storeL (enc := SlV.v) (u := y) slv_one h rfl rfl K.sz_S_uint8 0 rfl (by omega) ?_)
         clear h a w; intro a w h
         simp only [List.set_cons_zero] at h
         rw [gapL_set d y y2, gapL_down hy] at h
         refine wnil ?_
         refine b_normal ?_
         refine c_then ?_
         refine c_region ?_
         refine wv h (r_move h rfl) rfl ?_
         clear h a w; intro a w h
         refine wv h (r_bin h rfl rfl (B.sub_i64 (by omega) (by omega))) rfl ?_
         clear h a w; intro a w h
         refine wv h (r_assign h rfl) rfl ?_
         clear h a w; intro a w h
         refine wnil ?_
         rw [show (((k + 1 : Nat) : Int) - 1) = (k : Int) by omega] at h
         exact ⟨(k, y), h.keep [0, 3, 4, 6, 10], ⟨by simp only; omega, by simp only; omega⟩, by simp only; omega⟩
        ·
         obtain rfl : j = at_ := by omega
         refine c_exit ?_
         refine e_then ?_
         refine e_then ?_
         refine e_here ?_
         refine c_then ?_
         refine c_region ?_
         refine wv h (r_move h rfl) rfl ?_
         clear h a w; intro a w h
         refine wv h (r_move h rfl) rfl ?_
         clear h a w; intro a w h
         refine wv h (r_move h rfl) rfl ?_
         clear h a w; intro a w h
         refine wv h (r_move h rfl) rfl ?_
         clear h a w; intro a w h
         refine wv h (r_elPv h rfl rfl K.u_S_S_uint8 K.sz_S_uint8 (hv.cons _) i rfl ht1) rfl ?_
         clear h a w; intro a w h
         refine wv h (r_elG h rfl K.u_S_uint8 rfl (hv.cons _) hxc) rfl ?_
         clear h a w; intro a w h
         refine wv h (r_elPv h rfl rfl K.u_S_S_uint8 K.sz_S_uint8 (Views.own 0 rfl) j rfl (by omega)) rfl ?_
         clear h a w; intro a w h
         refine wl rfl (op_storeL (enc := SlV.v) (u := x) slv_one h rfl rfl K.sz_S_uint8 0 rfl (by omega) ?_)
         clear h a w; intro a w h
         simp only [List.set_cons_zero] at h
         rw [gapL_set d x y2] at h
         refine wnil ?_
         refine b_normal ?_
         refine c_then ?_
         refine c_region ?_
         refine wv h (r_move h rfl) rfl ?_
         clear h a w; intro a w h
         refine wv h (r_bin h rfl rfl (B.add_i64 (by omega) (by omega))) rfl ?_
         clear h a w; intro a w h
         refine wv h (r_assign h rfl) rfl ?_
         clear h a w; intro a w h
         refine wnil ?_
         have e : srtx (xs.take (i + 1)) = gapL O j x := hpt j hnk z2
         refine ⟨(i + 1, v49), ?_, ht1, by simp only; omega⟩
         show St 74 s a w _ (OwnL SlV.v v49 (srtx (xs.take (i + 1))) :: F)
         rw [e]
         exact h.keep [0, 3, 4]
   ·
    rw [List.take_of_length_le (by omega)] at h
    refine c_exit ?_
    refine e_then ?_
    refine e_then ?_
    refine e_here ?_
    refine c_then ?_
    refine c_seq (c_region ?_)
    refine wv h (r_move h rfl) rfl ?_
    clear h a w; intro a w h
    refine wv h (r_assign h rfl) rfl ?_
    clear h a w; intro a w h
    refine wnil (c_then ?_)
    refine c_ret ?_
    exact ret1 h rfl rfl ⟨ov, rfl, h.2, trivial⟩
theorem ref_Pack (s w : World) (v : Value) (xs : List SlV) (F : List HItem) (hv : Views F 1 v xs.length (xs.flatMap cellsS)) (hp : ∀ x ∈ xs, ViewsB F x.v x.p ∧ x.p.length ≤ 900) (hl : xs.length ≤ 64) (hs : Sat s w F) :
    Calls P n_ref15_Pack #[v] w (Ret s (fun v' : Value => v') (fun v' => OwnB v' (sealP (headP (bytesI (srtd xs)).length ++ tailP none 0 (bytesI (srtd xs)))) :: F) (fun _ => True)) := by
  refine enter K.fn_ref15_Pack rfl K.nt_ref15_Pack rfl hs ?_
  clear hs w; intro a w h
  refine c_seq (c_region ?_)
  refine wv h (r_assign h rfl) rfl ?_
  clear h a w; intro a w h
  refine wnil (c_then ?_)
  refine c_seq (c_region ?_)
  refine wv h (r_move h rfl) rfl ?_
  clear h a w; intro a w h
  refine wl rfl (op_call h rfl K.go_ref15_Sorted (ref_Sorted s _ v xs _ hv (fun x hx => ⟨(hp x hx).1, by have := (hp x hx).2; omega⟩) (by omega) h.2) rfl ?_)
  clear h a w; intro v9 a w hz9 h
  (simp only [List.set_cons_zero, List.set_cons_succ] at h)
  have hmem : ∀ x ∈ srtx xs, ViewsB F x.v x.p ∧ x.p.length ≤ 900 := fun x hx => hp x (srtx_mem hx)
  have hil := srtx_len xs
  obtain ⟨ps, hps⟩ : ∃ ps, ps = bytesI (srtd xs) := ⟨_, rfl⟩
  have hps2 : ps = (srtx xs).map (·.p) := by rw [hps, srtx_p]
  rw [← hps]
  clear hps
  obtain ⟨its, hits⟩ : ∃ its, its = srtx xs := ⟨_, rfl⟩
  rw [← hits] at h hmem hil hps2
  have hpl : ps.length = its.length := by rw [hps2, List.length_map]
  have hget : ∀ (i : Nat) (x : SlV), its[i]? = some x → ps[i]? = some x.p := fun i x hx => by rw [hps2, List.getElem?_map, hx]; rfl
  have hval : ∀ (i : Nat) (x : SlV), its[i]? = some x → (its.map SlV.v)[i * 1]? = some x.v := fun i x hx => by rw [Nat.mul_one, List.getElem?_map, hx]; rfl
  clear hits hps2
  have hn9 := numN_len9 its.length (by omega)
  refine wv h (r_assign h rfl) rfl ?_
  clear h a w; intro a w h
  refine wnil (c_then ?_)
  refine c_seq (c_region ?_)
  refine wl rfl (op_buildSlice h K.u_S_uint8 K.sz_uint8 K.z_uint8 rfl rfl rfl rfl rfl (by simp [Value.cells, bv, w32, w64, sv]) rfl ?_)
  clear h a w; intro b10 a w h
  refine wl rfl (op_lit h rfl K.u_S_uint8 K.u_uint8 0 rfl rfl ?_)
  clear h a w; intro a w h
  (simp only [List.set_cons_zero, List.set_cons_succ] at h)
  replace h := h.toOwnb [80, 49] (NF.past _) rfl rfl
  refine wv h (r_move h rfl) rfl ?_
  clear h a w; intro a w h
  refine wv h (r_lenV h rfl K.u_S_S_uint8 (by exact Views.own 1 rfl)) rfl ?_
  clear h a w; intro a w h
  refine wl rfl (op_call h rfl K.go_ref01_Num (ref_num s _ its.length _ (by omega) h.2) rfl ?_)
  clear h a w; intro v14 a w hz14 h
  refine wl rfl (op_appendbs h rfl rfl K.u_S_uint8 K.sz_uint8 K.z_uint8 rfl rfl 1 rfl (Src.bytes K.u_S_uint8 (by exact ViewsB.own 0 rfl) h.2) (by (simp only [List.length_cons, List.length_nil]; omega)) rfl ?_)
  clear h a w; intro v15 a w h
  (simp only [List.set_cons_zero, List.set_cons_succ] at h)
  refine wv h (r_assign h rfl) rfl ?_
  clear h a w; intro a w h
  refine wnil (c_then ?_)
  refine c_seq (c_region ?_)
  refine wv h (r_assign h rfl) rfl ?_
  clear h a w; intro a w h
  refine wnil (c_then ?_)
  refine c_seq ?_
  refine c_seq (c_region ?_)
  refine wv h (r_assign h rfl) rfl ?_
  clear h a w; intro a w h
  refine wnil (c_then ?_)
  refine c_block ?_
  replace h := h.mem (fun q => q.tail)
  have hhd : [80, 49] ++ numN its.length = headP ps.length := by rw [hpl]; rfl
  have hhl : (headP ps.length).length ≤ 20 := by rw [headP, hpl, List.length_append]; simp only [List.length_cons, List.length_nil]; omega
  rw [hhd] at h
  refine c_loop (X := Nat × Nat × Value × List UInt8) (fun z => [(3, v9), (4, z.2.2.1), (5, .int .i64 (z.2.1 : Int)), (6, .int .i64 (z.1 : Int))]) (fun z => OwnB z.2.2.1 z.2.2.2 :: OwnL SlV.v v9 its :: F)
    (fun z => z.1 ≤ its.length ∧ z.2.1 ≤ 4 ∧ z.2.2.2.length ≤ 20 + 920 * z.1 ∧ headP ps.length ++ tailP none 0 ps = z.2.2.2 ++ tailP (prevP ps z.1) z.2.1 (ps.drop z.1)) (fun z => its.length - z.1) (0, 0, v15, headP ps.length) (h.keep [3, 4, 5, 6]) ⟨Nat.zero_le _, by simp only; omega, by simp only; omega, rfl⟩ ?_
  clear h a w; intro z a w hz h
  obtain ⟨i, ch, pv, acc⟩ := z
  obtain ⟨z1, z2, z3, z4⟩ := hz
  simp only at z1 z2 z3 z4 h
  as_aux_lemma =>
   refine c_seq ?_
   refine c_seq (c_region ?_)
   refine wv h (r_move h rfl) rfl ?_
   clear h a w; intro a w h
   refine wv h (r_move h rfl) rfl ?_
   clear h a w; intro a w h
   refine wv h (r_lenV h rfl K.u_S_S_uint8 (by exact Views.own 1 rfl)) rfl ?_
   clear h a w; intro a w h
   refine wv h (r_bin h rfl rfl (B.lss_int)) rfl ?_
   clear h a w; intro a w h
   refine wnil (c_then ?_)
   refine c_condP (p := i < its.length) h rfl (by simp) (fun ht1 => ?_) (fun ht1 => ?_)
   ·
    obtain ⟨x, hx⟩ : ∃ x, its[i]? = some x := ⟨_, List.getElem?_eq_getElem ht1⟩
    obtain ⟨hxv, hxl⟩ := hmem x (List.mem_of_getElem? hx)
    have hpi := hget i x hx
    have hxc := hval i x hx
    have dp : ps.drop i = x.p :: ps.drop (i + 1) := by
      obtain ⟨hlt, e⟩ := List.getElem?_eq_some_iff.1 hpi
      rw [List.drop_eq_getElem_cons hlt, e]
    have hpn : prevP ps (i + 1) = some x.p := by rw [prevP, if_neg (by omega), Nat.add_sub_cancel, hpi]
    rw [dp, tailP] at z4
    refine c_skip ?_
    refine c_then ?_
    refine c_seq ?_
    refine c_block ?_
    refine c_meet h (X := Unit) (fun _ => [(3, v9), (4, pv), (5, .int .i64 (ch : Int)), (6, .int .i64 (i : Int))]) (fun _ => OwnB pv acc :: OwnL SlV.v v9 its :: F)
      (fun _ => ¬ ((prevP ps i).isSome = true ∧ ch < 4 ∧ (deltaN ((prevP ps i).getD []) x.p).length < x.p.length)) ?_ ?_
    ·
     refine c_seq (c_region ?_)
     refine wv h (r_move h rfl) rfl ?_
     clear h a w; intro a w h
     refine wv h (r_bin h rfl rfl (B.gtr_int)) rfl ?_
     clear h a w; intro a w h
     refine wv h (r_move h rfl) rfl ?_
     clear h a w; intro a w h
     refine wvG h (by exact .t rfl) (fun hg => by (have hg2 := hg; (simp only [Bool.and_eq_true, Bool.or_eq_true, Bool.not_eq_true', decide_eq_true_eq, decide_eq_false_iff_not] at hg2)); exact r_move h rfl) rfl ?_
     clear h a w; intro a w h
     refine wvG h (by exact .t rfl) (fun hg => by (simp only [↓gval_on hg, ↓gval_and hg] at h); (have hg2 := hg; (simp only [Bool.and_eq_true, Bool.or_eq_true, Bool.not_eq_true', decide_eq_true_eq, decide_eq_false_iff_not] at hg2)); exact r_bin h rfl rfl (B.lss_int)) rfl ?_
     clear h a w; intro a w h
     refine wv h (r_pickA h rfl rfl rfl) rfl ?_
     clear h a w; intro a w h
     refine wnil (c_then ?_)
     refine c_condP (p := 0 < i ∧ ch < 4) h rfl (by simp only [Bool.and_eq_true, decide_eq_true_eq]; omega) (fun ht2 => ?_) (fun ht2 => ?_)
     ·
      obtain ⟨x0, hx0⟩ : ∃ x, its[i - 1]? = some x := ⟨_, List.getElem?_eq_getElem (by omega)⟩
      obtain ⟨hyv, hyl⟩ := hmem x0 (List.mem_of_getElem? hx0)
      have hpp : prevP ps i = some x0.p := by rw [prevP, if_neg (by omega), hget _ _ hx0]
      rw [hpp] at z4 ⊢
      have hyc := hval _ _ hx0
      simp only [Option.isSome_some, Option.getD_some, true_and] at z4
      as_aux_lemma =>
       refine c_seq (c_drawn 11 K.mixed rfl h ?_)
       clear h a w; intro a w h
       have hD : Paid s w [] := Paid.nil
       refine d_take0 (listed' := #[true, false, false, false, false, false, false, false, false, false, false]) h hD 0 (by as_aux_lemma => kernel_rfl) rfl (by as_aux_lemma => kernel_rfl) (by as_aux_lemma => kernel_rfl) (by as_aux_lemma => kernel_rfl) (fun _ _ _ _ hh => hh) (fun w h => by exact r_move h rfl) rfl ?_
       clear hD h a w; intro a w h hD
       refine d_take0 (listed' := #[true, true, false, false, false, false, false, false, false, false, false]) h hD 1 (by as_aux_lemma => kernel_rfl) rfl (by as_aux_lemma => kernel_rfl) (by as_aux_lemma => kernel_rfl) (by as_aux_lemma => kernel_rfl) (fun _ _ _ _ hh => hh) (fun w h => by exact r_move h rfl) rfl ?_
       clear hD h a w; intro a w h hD
       refine d_take0 (listed' := #[true, true, true, false, false, false, false, false, false, false, false]) h hD 2 (by as_aux_lemma => kernel_rfl) rfl (by as_aux_lemma => kernel_rfl) (by as_aux_lemma => kernel_rfl) (by as_aux_lemma => kernel_rfl) (fun _ _ _ _ hh => hh) (fun w h => by exact r_bin h rfl rfl (B.sub_i64 (by omega) (by omega))) rfl ?_
       clear hD h a w; intro a w h hD
       refine d_take (listed' := #[true, true, true, true, false, false, false, false, false, false, false]) h hD 3 _ (by as_aux_lemma => kernel_rfl) rfl (by as_aux_lemma => kernel_rfl) (by as_aux_lemma => kernel_rfl) (by as_aux_lemma => kernel_rfl) (fun _ _ _ _ hh => hh) h.2 (fun w hw => by exact r_elPv /- Views -/ ⟨h.1, hw⟩ rfl rfl K.u_S_S_uint8 K.sz_S_uint8 (Views.own 1 rfl) (i - 1) (by omega) (by omega)) rfl ?_
       clear hD h a w; intro a w h hD
       refine d_take (listed' := #[true, true, true, true, true, false, false, false, false, false, false]) h hD 4 _ (by as_aux_lemma => kernel_rfl) rfl (by as_aux_lemma => kernel_rfl) (by as_aux_lemma => kernel_rfl) (by as_aux_lemma => kernel_rfl) (fun _ _ _ _ hh => hh) h.2 (fun w hw => by exact r_elG /- Views -/ ⟨h.1, hw⟩ rfl K.u_S_uint8 rfl (Views.own 1 rfl) hyc) rfl ?_
       clear hD h a w; intro a w h hD
       refine d_take0 (listed' := #[true, true, true, true, true, true, false, false, false, false, false]) h hD 5 (by as_aux_lemma => kernel_rfl) rfl (by as_aux_lemma => kernel_rfl) (by as_aux_lemma => kernel_rfl) (by as_aux_lemma => kernel_rfl) (fun _ _ _ _ hh => hh) (fun w h => by exact r_move h rfl) rfl ?_
       clear hD h a w; intro a w h hD
       refine d_take0 (listed' := #[true, true, true, true, true, true, true, false, false, false, false]) h hD 6 (by as_aux_lemma => kernel_rfl) rfl (by as_aux_lemma => kernel_rfl) (by as_aux_lemma => kernel_rfl) (by as_aux_lemma => kernel_rfl) (fun _ _ _ _ hh => hh) (fun w h => by exact r_move h rfl) rfl ?_
       clear hD h a w; intro a w h hD
       refine d_take (listed' := #[true, true, true, true, true, true, true, true, false, false, false]) h hD 7 _ (by as_aux_lemma => kernel_rfl) rfl (by as_aux_lemma => kernel_rfl) (by as_aux_lemma => kernel_rfl) (by as_aux_lemma => kernel_rfl) (fun _ _ _ _ hh => hh) h.2 (fun w hw => by exact r_elPv /- Views -/ ⟨h.1, hw⟩ rfl rfl K.u_S_S_uint8 K.sz_S_uint8 (Views.own 1 rfl) i rfl ht1) rfl ?_
       clear hD h a w; intro a w h hD
       refine d_take (listed' := #[true, true, true, true, true, true, true, true, true, false, false]) h hD 8 _ (by as_aux_lemma => kernel_rfl) rfl (by as_aux_lemma => kernel_rfl) (by as_aux_lemma => kernel_rfl) (by as_aux_lemma => kernel_rfl) (fun _ _ _ _ hh => hh) h.2 (fun w hw => by exact r_elG /- Views -/ ⟨h.1, hw⟩ rfl K.u_S_uint8 rfl (Views.own 1 rfl) hxc) rfl ?_
       clear hD h a w; intro a w h hD
       refine d_only (listed' := #[true, true, true, true, true, true, true, true, true, true, false]) 9 [false, true, false, true] (by as_aux_lemma => kernel_rfl) rfl rfl (by as_aux_lemma => kernel_rfl) (by as_aux_lemma => kernel_rfl) ?_
       refine op_call h rfl K.go_ref15_Delta (ref_Delta s _ x0.v x.v x0.p x.p _ ((hyv.cons _).cons _) ((hxv.cons _).cons _) (by omega) (by omega) h.2) rfl ?_
       clear hD h a w; intro v37 a w hz37 h
       obtain ⟨d, hd⟩ : ∃ d, d = deltaN x0.p x.p := ⟨_, rfl⟩
       rw [← hd] at h z4
       refine d_pay (Paid.cons (by exact h.2.drop 1) (Paid.cons (by exact h.2.drop 1) (Paid.nil))) (fun hD => ?_)
       refine d_take0 (listed' := #[true, true, true, true, true, true, true, true, true, true, true]) h hD 10 (by as_aux_lemma => kernel_rfl) rfl (by as_aux_lemma => kernel_rfl) (by as_aux_lemma => kernel_rfl) (by as_aux_lemma => kernel_rfl) (fun _ _ _ _ hh => hh) (fun w h => by exact r_assign h rfl) rfl ?_
       clear hD h a w; intro a w h hD
       refine d_done (by kernel_rfl) ?_
       clear hD
       refine c_then ?_
       refine c_seq (c_region ?_)
       refine wv h (r_move h rfl) rfl ?_
       clear h a w; intro a w h
       refine wv h (r_lenB h rfl K.u_S_uint8 (by exact ViewsB.own 0 rfl)) rfl ?_
       clear h a w; intro a w h
       refine wv h (r_move h rfl) rfl ?_
       clear h a w; intro a w h
       refine wv h (r_move h rfl) rfl ?_
       clear h a w; intro a w h
       refine wv h (r_elPv h rfl rfl K.u_S_S_uint8 K.sz_S_uint8 (Views.own 2 rfl) i rfl ht1) rfl ?_
       clear h a w; intro a w h
       refine wv h (r_elG h rfl K.u_S_uint8 rfl (Views.own 2 rfl) hxc) rfl ?_
       clear h a w; intro a w h
       refine wv h (r_lenB h rfl K.u_S_uint8 (((hxv.cons _).cons _).cons _)) rfl ?_
       clear h a w; intro a w h
       refine wv h (r_bin h rfl rfl (B.lss_int)) rfl ?_
       clear h a w; intro a w h
       refine wnil (c_then ?_)
       refine c_condP (p := d.length < x.p.length) h rfl (by simp) (fun ht3 => ?_) (fun ht3 => ?_)
       ·
        have hn1 := numN_len9 (2 * d.length + 1) (by omega)
        rw [if_pos ⟨ht2.2, ht3⟩] at z4
        as_aux_lemma =>
         refine c_seq (c_region ?_)
         refine wv h (r_move h rfl) rfl ?_
         clear h a w; intro a w h
         refine wv h (r_move h rfl) rfl ?_
         clear h a w; intro a w h
         refine wv h (r_lenB h rfl K.u_S_uint8 (by exact ViewsB.own 0 rfl)) rfl ?_
         clear h a w; intro a w h
         refine wv h (r_bin h rfl rfl (B.mul_i64 (by omega) (by omega))) rfl ?_
         clear h a w; intro a w h
         refine wv h (r_bin h rfl rfl (B.add_i64 (by omega) (by omega))) rfl ?_
         clear h a w; intro a w h
         rw [show (2 * (d.length : Int) + 1) = ((2 * d.length + 1 : Nat) : Int) by omega] at h
         refine wl rfl (op_call h rfl K.go_ref01_Num (ref_num s _ (2 * d.length + 1) _ (by omega) h.2) rfl ?_)
         clear h a w; intro v51 a w hz51 h
         refine wl rfl (op_appendbs h rfl rfl K.u_S_uint8 K.sz_uint8 K.z_uint8 rfl rfl 2 rfl (Src.bytes K.u_S_uint8 (by exact ViewsB.own 0 rfl) h.2) (by omega) rfl ?_)
         clear h a w; intro v52 a w h
         (simp only [List.set_cons_zero, List.set_cons_succ] at h)
         refine wv h (r_move h rfl) rfl ?_
         clear h a w; intro a w h
         refine wl rfl (op_appendbs h rfl rfl K.u_S_uint8 K.sz_uint8 K.z_uint8 rfl rfl 2 rfl (Src.bytes K.u_S_uint8 (by exact ViewsB.own 1 rfl) h.2) (by (simp; omega)) rfl ?_)
         clear h a w; intro v54 a w h
         (simp only [List.set_cons_zero, List.set_cons_succ] at h)
         refine wv h (r_assign h rfl) rfl ?_
         clear h a w; intro a w h
         refine wnil (c_then ?_)
         refine c_seq (c_region ?_)
         refine wv h (r_move h rfl) rfl ?_
         clear h a w; intro a w h
         refine wv h (r_bin h rfl rfl (B.add_i64 (by omega) (by omega))) rfl ?_
         clear h a w; intro a w h
         refine wv h (r_assign h rfl) rfl ?_
         clear h a w; intro a w h
         refine wnil (c_then ?_)
         refine c_exit ?_
         refine e_then ?_
         refine e_here ?_
         refine c_then ?_
         refine c_region ?_
         refine wv h (r_move h rfl) rfl ?_
         clear h a w; intro a w h
         refine wv h (r_bin h rfl rfl (B.add_i64 (by omega) (by omega))) rfl ?_
         clear h a w; intro a w h
         refine wv h (r_assign h rfl) rfl ?_
         clear h a w; intro a w h
         refine wnil ?_
         replace h := h.mem (fun q => q.tail.tail)
         exact ⟨(i + 1, ch + 1, v54, acc ++ numN (2 * d.length + 1) ++ d), h.keep [3, 4, 5, 6], ⟨ht1, by simp only; omega, by simp only [List.length_append]; omega, by rw [z4, hpn]; simp⟩, by simp only; omega⟩
       ·
        refine c_skip ?_
        exact ⟨(), (h.keep [3, 4, 5, 6]).drop 1, fun q => ht3 (by simpa [← hd] using q.2.2)⟩
     ·
      refine c_skip ?_
      exact ⟨(), h.keep [3, 4, 5, 6], fun q => ht2 ⟨by
        rcases Nat.eq_zero_or_pos i with e | e
        · rw [e] at q; simp [prevP] at q
        · exact e, q.2.1⟩⟩
    ·
     clear h a w; intro z a w hz h
     rw [if_neg hz] at z4
     have hn2 := numN_len9 (2 * x.p.length) (by omega)
     refine c_seq (c_drawn 15 K.mixed rfl h ?_)
     clear h a w; intro a w h
     have hD : Paid s w [] := Paid.nil
     refine d_take0 (listed' := #[true, false, false, false, false, false, false, false, false, false, false, false, false, false, false]) h hD 0 (by as_aux_lemma => kernel_rfl) rfl (by as_aux_lemma => kernel_rfl) (by as_aux_lemma => kernel_rfl) (by as_aux_lemma => kernel_rfl) (fun _ _ _ _ hh => hh) (fun w h => by exact r_move h rfl) rfl ?_
     clear hD h a w; intro a w h hD
     refine d_take0 (listed' := #[true, true, false, false, false, false, false, false, false, false, false, false, false, false, false]) h hD 1 (by as_aux_lemma => kernel_rfl) rfl (by as_aux_lemma => kernel_rfl) (by as_aux_lemma => kernel_rfl) (by as_aux_lemma => kernel_rfl) (fun _ _ _ _ hh => hh) (fun w h => by exact r_move h rfl) rfl ?_
     clear hD h a w; intro a w h hD
     refine d_take0 (listed' := #[true, true, true, false, false, false, false, false, false, false, false, false, false, false, false]) h hD 2 (by as_aux_lemma => kernel_rfl) rfl (by as_aux_lemma => kernel_rfl) (by as_aux_lemma => kernel_rfl) (by as_aux_lemma => kernel_rfl) (fun _ _ _ _ hh => hh) (fun w h => by exact r_move h rfl) rfl ?_
     clear hD h a w; intro a w h hD
     refine d_take (listed' := #[true, true, true, true, false, false, false, false, false, false, false, false, false, false, false]) h hD 3 ((OwnL SlV.v v9 its :: F)) (by as_aux_lemma => kernel_rfl) rfl (by as_aux_lemma => kernel_rfl) (by as_aux_lemma => kernel_rfl) (by as_aux_lemma => kernel_rfl) (fun _ _ _ _ hh => hh) (by exact h.2.drop 1) (fun w hw => by exact r_elPv /- Views -/ ⟨h.1, hw⟩ rfl rfl K.u_S_S_uint8 K.sz_S_uint8 (Views.own 0 rfl) i rfl ht1) rfl ?_
     clear hD h a w; intro a w h hD
     refine d_take (listed' := #[true, true, true, true, true, false, false, false, false, false, false, false, false, false, false]) h hD 4 ((OwnL SlV.v v9 its :: F)) (by as_aux_lemma => kernel_rfl) rfl (by as_aux_lemma => kernel_rfl) (by as_aux_lemma => kernel_rfl) (by as_aux_lemma => kernel_rfl) (fun _ _ _ _ hh => hh) (by exact h.2.drop 1) (fun w hw => by exact r_elG /- Views -/ ⟨h.1, hw⟩ rfl K.u_S_uint8 rfl (Views.own 0 rfl) hxc) rfl ?_
     clear hD h a w; intro a w h hD
     refine d_take (listed' := #[true, true, true, true, true, true, false, false, false, false, false, false, false, false, false]) h hD 5 (F) (by as_aux_lemma => kernel_rfl) rfl (by as_aux_lemma => kernel_rfl) (by as_aux_lemma => kernel_rfl) (by as_aux_lemma => kernel_rfl) (fun _ _ _ _ hh => hh) (by exact h.2.drop 2) (fun w hw => by exact r_lenB /- Views -/ ⟨h.1, hw⟩ rfl K.u_S_uint8 hxv) rfl ?_
     clear hD h a w; intro a w h hD
     refine d_take0 (listed' := #[true, true, true, true, true, true, true, false, false, false, false, false, false, false, false]) h hD 6 (by as_aux_lemma => kernel_rfl) rfl (by as_aux_lemma => kernel_rfl) (by as_aux_lemma => kernel_rfl) (by as_aux_lemma => kernel_rfl) (fun _ _ _ _ hh => hh) (fun w h => by exact r_bin h rfl rfl (B.mul_i64 (by omega) (by omega))) rfl ?_
     clear hD h a w; intro a w h hD
     rw [show (2 * (x.p.length : Int)) = ((2 * x.p.length : Nat) : Int) by omega] at h
     refine d_take0 (listed' := #[true, true, true, true, true, true, true, false, false, true, false, false, false, false, false]) h hD 9 (by as_aux_lemma => kernel_rfl) rfl (by as_aux_lemma => kernel_rfl) (by as_aux_lemma => kernel_rfl) (by as_aux_lemma => kernel_rfl) (fun _ _ _ _ hh => hh) (fun w h => by exact r_move h rfl) rfl ?_
     clear hD h a w; intro a w h hD
     refine d_take0 (listed' := #[true, true, true, true, true, true, true, false, false, true, true, false, false, false, false]) h hD 10 (by as_aux_lemma => kernel_rfl) rfl (by as_aux_lemma => kernel_rfl) (by as_aux_lemma => kernel_rfl) (by as_aux_lemma => kernel_rfl) (fun _ _ _ _ hh => hh) (fun w h => by exact r_move h rfl) rfl ?_
     clear hD h a w; intro a w h hD
     refine d_take (listed' := #[true, true, true, true, true, true, true, false, false, true, true, true, false, false, false]) h hD 11 ((OwnL SlV.v v9 its :: F)) (by as_aux_lemma => kernel_rfl) rfl (by as_aux_lemma => kernel_rfl) (by as_aux_lemma => kernel_rfl) (by as_aux_lemma => kernel_rfl) (fun _ _ _ _ hh => hh) (by exact h.2.drop 1) (fun w hw => by exact r_elPv /- Views -/ ⟨h.1, hw⟩ rfl rfl K.u_S_S_uint8 K.sz_S_uint8 (Views.own 0 rfl) i rfl ht1) rfl ?_
     clear hD h a w; intro a w h hD
     refine d_take (listed' := #[true, true, true, true, true, true, true, false, false, true, true, true, true, false, false]) h hD 12 ((OwnL SlV.v v9 its :: F)) (by as_aux_lemma => kernel_rfl) rfl (by as_aux_lemma => kernel_rfl) (by as_aux_lemma => kernel_rfl) (by as_aux_lemma => kernel_rfl) (fun _ _ _ _ hh => hh) (by exact h.2.drop 1) (fun w hw => by exact r_elG /- Views -/ ⟨h.1, hw⟩ rfl K.u_S_uint8 rfl (Views.own 0 rfl) hxc) rfl ?_
     clear hD h a w; intro a w h hD
     refine d_only (listed' := #[true, true, true, true, true, true, true, true, false, true, true, true, true, false, false]) 7 [true, true, true, true, true] (by as_aux_lemma => kernel_rfl) rfl rfl (by as_aux_lemma => kernel_rfl) (by as_aux_lemma => kernel_rfl) ?_
     refine op_call h rfl K.go_ref01_Num (ref_num s _ (2 * x.p.length) _ (by omega) h.2) rfl ?_
     clear hD h a w; intro v64 a w hz64 h
     refine d_pay (Paid.cons (by exact h.2.drop 2) (Paid.cons (by exact h.2.drop 2) (Paid.cons (by exact h.2.drop 3) (Paid.cons (by exact h.2.drop 2) (Paid.cons (by exact h.2.drop 2) (Paid.nil)))))) (fun hD => ?_)
     refine d_only (listed' := #[true, true, true, true, true, true, true, true, true, true, true, true, true, false, false]) 8 [true, true, true, true, true] (by as_aux_lemma => kernel_rfl) rfl rfl (by as_aux_lemma => kernel_rfl) (by as_aux_lemma => kernel_rfl) ?_
     refine op_appendbs h rfl rfl K.u_S_uint8 K.sz_uint8 K.z_uint8 rfl rfl 1 rfl (Src.bytes K.u_S_uint8 (by exact ViewsB.own 0 rfl) h.2) (by omega) rfl ?_
     clear hD h a w; intro v65 a w h
     (simp only [List.set_cons_zero, List.set_cons_succ] at h)
     refine d_pay (Paid.cons (by exact h.2.drop 2) (Paid.cons (by exact h.2.drop 2) (Paid.cons (by exact h.2.drop 3) (Paid.cons (by exact h.2.drop 2) (Paid.cons (by exact h.2.drop 2) (Paid.nil)))))) (fun hD => ?_)
     refine d_only (listed' := #[true, true, true, true, true, true, true, true, true, true, true, true, true, true, false]) 13 [false, true, true, true, true] (by as_aux_lemma => kernel_rfl) rfl rfl (by as_aux_lemma => kernel_rfl) (by as_aux_lemma => kernel_rfl) ?_
     refine op_appendbs h rfl rfl K.u_S_uint8 K.sz_uint8 K.z_uint8 rfl rfl 1 rfl (Src.bytes K.u_S_uint8 (by exact ViewsB.of_drop 3 (by assumption)) h.2) (by (simp; omega)) rfl ?_
     clear hD h a w; intro v70 a w h
     (simp only [List.set_cons_zero, List.set_cons_succ] at h)
     refine d_pay (Paid.cons (by exact h.2.drop 2) (Paid.cons (by exact h.2.drop 3) (Paid.cons (by exact h.2.drop 2) (Paid.cons (by exact h.2.drop 2) (Paid.nil))))) (fun hD => ?_)
     refine d_take0 (listed' := #[true, true, true, true, true, true, true, true, true, true, true, true, true, true, true]) h hD 14 (by as_aux_lemma => kernel_rfl) rfl (by as_aux_lemma => kernel_rfl) (by as_aux_lemma => kernel_rfl) (by as_aux_lemma => kernel_rfl) (fun _ _ _ _ hh => hh) (fun w h => by exact r_assign h rfl) rfl ?_
     clear hD h a w; intro a w h hD
     refine d_done (by kernel_rfl) ?_
     clear hD
     refine c_then ?_
     refine c_region ?_
     refine wv h (r_assign h rfl) rfl ?_
     clear h a w; intro a w h
     refine wnil ?_
     refine b_normal ?_
     refine c_then ?_
     refine c_region ?_
     refine wv h (r_move h rfl) rfl ?_
     clear h a w; intro a w h
     refine wv h (r_bin h rfl rfl (B.add_i64 (by omega) (by omega))) rfl ?_
     clear h a w; intro a w h
     refine wv h (r_assign h rfl) rfl ?_
     clear h a w; intro a w h
     refine wnil ?_
     replace h := h.mem (fun q => q.tail)
     exact ⟨(i + 1, 0, v70, acc ++ numN (2 * x.p.length) ++ x.p), h.keep [3, 4, 5, 6], ⟨ht1, by simp only; omega, by simp only [List.length_append]; omega, by rw [z4, hpn]; simp⟩, by simp only; omega⟩
   ·
    rw [List.drop_eq_nil_of_le (by omega), tailP, List.append_nil] at z4
    have hf4 : (fourN (crcN acc)).length = 4 := rfl
    refine c_exit ?_
    refine e_then ?_
    refine e_then ?_
    refine e_here ?_
    refine c_then ?_
    refine c_seq (c_region ?_)
    refine wv h (r_move h rfl) rfl ?_
    clear h a w; intro a w h
    refine wv h (r_move h rfl) rfl ?_
    clear h a w; intro a w h
    refine wl rfl (op_call h rfl K.go_ref01_Sum (ref_sum s _ pv acc _ (by omega) (Views.own 0 rfl) h.2) rfl ?_)
    clear h a w; intro z73 a w hz73 h
    refine wl rfl (op_call h rfl K.go_ref01_Four (ref_four s _ (crcN acc) _ h.2) rfl ?_)
    clear h a w; intro v74 a w hz74 h
    refine wl rfl (op_appendbs h rfl rfl K.u_S_uint8 K.sz_uint8 K.z_uint8 rfl rfl 1 rfl (Src.bytes K.u_S_uint8 (by exact ViewsB.own 0 rfl) h.2) (by omega) rfl ?_)
    clear h a w; intro v75 a w h
    (simp only [List.set_cons_zero, List.set_cons_succ] at h)
    refine wv h (r_assign h rfl) rfl ?_
    clear h a w; intro a w h
    refine wnil (c_then ?_)
    refine c_ret ?_
    exact ret1 h rfl rfl ⟨v75, rfl, by rw [z4]; exact ((h.2.tail.front 1 rfl).tail), trivial⟩
end Go.Proofs.K

/- Rows of bytes that come in. -/
namespace Go.Proofs.K
open Go.Sl Go.ChangeShapes Go.WideShapes Go.ChangeAt Go.RowKit
theorem slv_list {L : List HItem} {s w : World} (hs : Sat s w L) : ∀ (l : List (Value × List UInt8)), (∀ x ∈ l, ViewsB L x.1 x.2) → ∃ xs : List SlV, xs.map SlV.v = l.map (·.1) ∧ ∀ x ∈ xs, ViewsB L x.v x.p
  | [], _ => ⟨[], rfl, fun x hx => absurd hx (by simp)⟩
  | y :: l, h => by
    obtain ⟨xs, h1, h2⟩ := slv_list hs l (fun x hx => h x (by simp [hx]))
    have hy := h y (by simp)
    obtain ⟨A, cap, e, _⟩ := hy.shape hs
    refine ⟨⟨A, y.2.length, cap, y.2⟩ :: xs, by rw [List.map_cons, List.map_cons, h1, e], fun x hx => ?_⟩
    rcases List.mem_cons.1 hx with rfl | hx
    · show ViewsB L (.slice A y.2.length cap) y.2
      rw [← e]; exact hy
    · exact h2 x hx
theorem open_S_S_uint8 {H : Type} {enc : TypeId × Value → H} {W : World} {base b0 : Nat} {r : Reach} {v : Value} {d : DataW H} {ps : List MemPlace} (hval : Value.okWide P W r b0 t_S_S_uint8 v) (hd : DataW.Trod enc P W base (fun _ => true) true t_S_S_uint8 v d ps) :
    ∃ xs : List SlV, Views [Base W] 1 v xs.length (xs.flatMap cellsS) ∧ ∀ x ∈ xs, ViewsB [Base W] x.v x.p := by
  have ho := opn_slice (P := P) (enc := enc) (W := W) (size := 1) u_S_uint8 (by kernel_rfl) (by decide) (fun _ => rfl) (opn_u8 (P := P) (enc := enc) (W := W) u_uint8)
  obtain ⟨A, len, cap, rfl⟩ := okWide_slice u_S_S_uint8 hval
  obtain ⟨⟨v', l⟩, hv, hl, hp⟩ := opn_arg (opn_slice (size := 1) u_S_S_uint8 (by kernel_rfl) (by decide) (fun _ => rfl) ho) hd
  have h2 : [Value.slice A len cap] = [v'] := hv
  cases h2
  obtain ⟨xs, h1, h3⟩ := slv_list (Sat.base W) l (fun x hx => by
    have := (hp x hx).1
    have e : x.2.flatMap (fun b : UInt8 => [bv b]) = bs x.2 := by
      rw [← List.map_eq_flatMap]; rfl
    rw [e] at this
    exact this)
  have e1 : xs.length = l.length := by simpa using congrArg List.length h1
  refine ⟨xs, ?_, h3⟩
  rw [flatS, h1, e1]
  have e2 : l.flatMap (fun x : Value × List UInt8 => [x.1]) = l.map (·.1) := (List.map_eq_flatMap).symm
  rw [← e2]
  exact hl
end Go.Proofs.K

/- The laws of layer 16, walked: PackObjects. -/
namespace Go.Sl
theorem tailP_len : ∀ (l : List (List UInt8)) (prev : Option (List UInt8)) (ch : Nat), (∀ p ∈ l, p.length ≤ 900) → (tailP prev ch l).length ≤ 920 * l.length
  | [], _, _, _ => by simp [tailP]
  | p :: l, prev, ch, h => by
    have hp := h p (by simp)
    have ih := fun prev ch => tailP_len l prev ch (fun q hq => h q (by simp [hq]))
    rw [tailP]
    split
    · rename_i hc
      have := ih (some p) (ch + 1)
      have := numN_len9 (2 * (deltaN (prev.getD []) p).length + 1) (by omega)
      simp only [List.length_append, List.length_cons]; omega
    · have := ih (some p) 0
      have := numN_len9 (2 * p.length) (by omega)
      simp only [List.length_append, List.length_cons]; omega
/-- a pack's bytes -/
def packP (xs : List SlV) : List UInt8 := headP (bytesI (srtd xs)).length ++ tailP none 0 (bytesI (srtd xs))
theorem bytesI_ok {xs : List SlV} (h : ∀ x ∈ xs, OkP x.p) : ∀ p ∈ bytesI (srtd xs), OkP p := fun p hp => by
  obtain ⟨i, hi, rfl⟩ := List.mem_map.1 hp
  exact h _ (srtd_mem hi).1
theorem bytesI_len (xs : List SlV) : (bytesI (srtd xs)).length ≤ xs.length := by unfold bytesI; rw [List.length_map]; exact srtd_len xs
theorem encP_pack {xs : List SlV} (h : ∀ x ∈ xs, OkP x.p) (hl : xs.length ≤ 64) : encP (bytesI (srtd xs)) = some (sealP (packP xs)) :=
  encP_tail (bytesI_ok h) (by have := bytesI_len xs; omega)
theorem packP_len {xs : List SlV} (h : ∀ x ∈ xs, OkP x.p) (hl : xs.length ≤ 64) : (packP xs).length ≤ 20 + 920 * xs.length ∧ 3 ≤ (packP xs).length := by
  have h1 := bytesI_len xs
  have h2 := tailP_len (bytesI (srtd xs)) none 0 (fun p hp => (bytesI_ok h p hp).2)
  have h3 := numN_len9 (bytesI (srtd xs)).length (by omega)
  have h4 := numN_len_pos (bytesI (srtd xs)).length
  unfold packP headP
  simp only [List.length_append, List.length_cons, List.length_nil]; omega
end Go.Sl
namespace Go.Proofs.K
open Go.Sl
attribute [local irreducible] Go.Sl.Own Go.Sl.Blk Go.Sl.Sep Go.Sl.Ex Go.Sl.Fact
theorem law16_PackObjects (s w : World) (v0 : Value) (xs : List SlV) (near : UInt8) (F : List HItem) (hT : HasParts F) (hF : HasFirst F) (hC : HasLines F) (hv : Views F 1 v0 xs.length (xs.flatMap cellsS)) (hp : ∀ x ∈ xs, ViewsB F x.v x.p) (hs : Sat s w F) :
    Calls P n_law16_PackObjects #[v0, bv near] w (Ret s (fun _ : Unit => .bool true) (fun _ => F) (fun _ => True)) := by
  refine enter K.fn_law16_PackObjects rfl K.nt_law16_PackObjects rfl hs ?_
  clear hs w; intro a w h
  refine c_seq (c_region ?_)
  refine wv h (r_assign h rfl) rfl ?_
  clear h a w; intro a w h
  refine wnil (c_then ?_)
  refine c_seq ?_
  refine c_seq (c_region ?_)
  refine wl rfl (op_call h rfl K.go_law16_awake (law16_awake s _ _ hT hF hC h.2) rfl ?_)
  clear h a w; intro z14 a w hz14 h
  (simp only [List.set_cons_zero, List.set_cons_succ] at h)
  refine wv h (r_not h rfl) rfl ?_
  clear h a w; intro a w h
  refine wv h (r_move h rfl) rfl ?_
  clear h a w; intro a w h
  refine wvG h (by exact .f rfl) (fun hg => by (have hg2 := hg; (simp only [Bool.and_eq_true, Bool.or_eq_true, Bool.not_eq_true', decide_eq_true_eq, decide_eq_false_iff_not] at hg2)); exact r_move h rfl) rfl ?_
  clear h a w; intro a w h
  refine wvG h (by exact .f rfl) (fun hg => by (simp only [↓gval_on hg, ↓gval_and hg] at h); (have hg2 := hg; (simp only [Bool.and_eq_true, Bool.or_eq_true, Bool.not_eq_true', decide_eq_true_eq, decide_eq_false_iff_not] at hg2)); exact r_lenV h rfl K.u_S_S_uint8 (by assumption)) rfl ?_
  clear h a w; intro a w h
  refine wvG h (by exact .f rfl) (fun hg => by (simp only [↓gval_on hg, ↓gval_and hg] at h); (have hg2 := hg; (simp only [Bool.and_eq_true, Bool.or_eq_true, Bool.not_eq_true', decide_eq_true_eq, decide_eq_false_iff_not] at hg2)); exact r_bin h rfl rfl (B.gtr_int)) rfl ?_
  clear h a w; intro a w h
  refine wv h (r_pickO h rfl rfl rfl) rfl ?_
  clear h a w; intro a w h
  refine wnil (c_then ?_)
  refine c_condP (p := 10 < xs.length) h rfl (by simp; omega) (fun ht1 => ?_) (fun ht1 => ?_)
  ·
   as_aux_lemma =>
    refine c_seq (c_region ?_)
    refine wl rfl (op_call h rfl K.go_law16_awake (law16_awake s _ _ hT hF hC h.2) rfl ?_)
    clear h a w; intro z21 a w hz21 h
    refine wv h (r_assign h rfl) rfl ?_
    clear h a w; intro a w h
    refine wnil (c_then ?_)
    refine c_ret ?_
    exact ret1 h rfl rfl ⟨(), rfl, h.2, trivial⟩
  ·
   refine c_skip ?_
   refine c_then ?_
   refine c_seq (c_region ?_)
   refine wv h (r_assign h rfl) rfl ?_
   clear h a w; intro a w h
   refine wnil (c_then ?_)
   refine c_seq ?_
   refine c_seq (c_region ?_)
   refine wv h (r_assign h rfl) rfl ?_
   clear h a w; intro a w h
   refine wnil (c_then ?_)
   refine c_block ?_
   replace h : St _ _ _ _ _ (OwnM 1 cellsS (.slice none 0 0) [] :: BytI [] :: F) := St.addNilM (size := 1) (cells := cellsS) ⟨h.1, satBytNil h.2⟩
   refine c_loop (X := Nat × Value × List SlV) (fun z => [(0, v0), (1, bv near), (5, z.2.1), (6, .int .i64 (z.1 : Int))]) (fun z => OwnM 1 cellsS z.2.1 z.2.2 :: BytI z.2.2 :: F)
     (fun z => z.1 ≤ xs.length ∧ z.2.2.length = z.1 ∧ (∀ y ∈ z.2.2, 0 < y.p.length ∧ y.p.length ≤ 120) ∧ ∀ x, 0 < z.1 → xs[0]? = some x → x.p.length ≤ 60) (fun z => xs.length - z.1) (0, .slice none 0 0, []) (h.keep [0, 1, 5, 6]) ⟨Nat.zero_le _, rfl, fun y hy => absurd hy (by simp), fun x hx => absurd hx (by simp)⟩ ?_
   clear h a w; intro z a w hz h
   obtain ⟨i, v5, ys⟩ := z
   obtain ⟨z1, z2, z3, z4⟩ := hz
   simp only at z1 z2 z3 z4 h
   as_aux_lemma =>
    refine c_seq ?_
    refine c_seq (c_region ?_)
    refine wv h (r_move h rfl) rfl ?_
    clear h a w; intro a w h
    refine wv h (r_move h rfl) rfl ?_
    clear h a w; intro a w h
    refine wv h (r_lenV h rfl K.u_S_S_uint8 (by exact Views.of_drop 2 (by assumption))) rfl ?_
    clear h a w; intro a w h
    refine wv h (r_bin h rfl rfl (B.lss_int)) rfl ?_
    clear h a w; intro a w h
    refine wnil (c_then ?_)
    refine c_condP (p := i < xs.length) h rfl (by simp) (fun ht2 => ?_) (fun ht2 => ?_)
    ·
     obtain ⟨x, hx⟩ : ∃ x, xs[i]? = some x := ⟨_, List.getElem?_eq_getElem ht2⟩
     obtain ⟨x0, hx0⟩ : ∃ x, xs[0]? = some x := ⟨_, List.getElem?_eq_getElem (by omega)⟩
     have hxv := hp x (List.mem_of_getElem? hx)
     have hyv := hp x0 (List.mem_of_getElem? hx0)
     have hxc : (xs.flatMap cellsS)[i * 1]? = some x.v := by rw [flatS, Nat.mul_one, List.getElem?_map, hx]; rfl
     have hyc : (xs.flatMap cellsS)[0 * 1]? = some x0.v := by rw [flatS, Nat.mul_one, List.getElem?_map, hx0]; rfl
     refine c_skip ?_
     refine c_then ?_
     refine c_seq ?_
     refine c_block ?_
     refine c_seq ?_
     refine c_seq (c_region ?_)
     refine wv h (r_move h rfl) rfl ?_
     clear h a w; intro a w h
     refine wv h (r_move h rfl) rfl ?_
     clear h a w; intro a w h
     refine wv h (r_elPv h rfl rfl K.u_S_S_uint8 K.sz_S_uint8 ((hv.cons _).cons _) i rfl ht2) rfl ?_
     clear h a w; intro a w h
     refine wv h (r_elG h rfl K.u_S_uint8 rfl ((hv.cons _).cons _) hxc) rfl ?_
     clear h a w; intro a w h
     refine wv h (r_lenB h rfl K.u_S_uint8 (by exact ViewsB.of_drop 2 (by assumption))) rfl ?_
     clear h a w; intro a w h
     refine wv h (r_bin h rfl rfl (B.gtr_int)) rfl ?_
     clear h a w; intro a w h
     refine wnil (c_then ?_)
     refine c_condP (p := 60 < x.p.length) h rfl (by simp; omega) (fun ht3 => ?_) (fun ht3 => ?_)
     ·
      as_aux_lemma =>
       refine c_seq (c_region ?_)
       refine wv h (r_assign h rfl) rfl ?_
       clear h a w; intro a w h
       refine wnil (c_then ?_)
       refine c_ret ?_
       exact ret1 h rfl rfl ⟨(), rfl, h.2.tail.tail, trivial⟩
     ·
      refine c_skip ?_
      refine c_then ?_
      refine c_seq (c_region ?_)
      refine wv h (r_move h rfl) rfl ?_
      clear h a w; intro a w h
      refine wv h (r_move h rfl) rfl ?_
      clear h a w; intro a w h
      refine wv h (r_elPv h rfl rfl K.u_S_S_uint8 K.sz_S_uint8 ((hv.cons _).cons _) i rfl ht2) rfl ?_
      clear h a w; intro a w h
      refine wv h (r_elG h rfl K.u_S_uint8 rfl ((hv.cons _).cons _) hxc) rfl ?_
      clear h a w; intro a w h
      refine wl rfl (op_appendnbs h rfl rfl K.u_S_uint8 K.sz_uint8 K.z_uint8 rfl rfl (Src.bytes K.u_S_uint8 (by exact ViewsB.of_drop 2 (by assumption)) h.2) (by omega) rfl ?_)
      clear h a w; intro v38 a w h
      refine wv h (r_assign h rfl) rfl ?_
      clear h a w; intro a w h
      refine wnil (c_then ?_)
      refine c_meet h (X := Value × List UInt8) (fun z => [(0, v0), (1, bv near), (5, v5), (6, .int .i64 (i : Int)), (7, z.1)]) (fun z => OwnB z.1 z.2 :: OwnM 1 cellsS v5 ys :: BytI ys :: F) (fun z => z.2.length ≤ 120) ?_ ?_
      ·
       refine c_seq (c_region ?_)
       refine wv h (r_move h rfl) rfl ?_
       clear h a w; intro a w h
       refine wv h (r_bin h rfl rfl (B.rem_u8 (y := 2) (by decide))) rfl ?_
       clear h a w; intro a w h
       refine wv h (r_bin h rfl rfl (B.eql_u8 (y := 1))) rfl ?_
       clear h a w; intro a w h
       refine wv h (r_move h rfl) rfl ?_
       clear h a w; intro a w h
       refine wvG h (by exact .t rfl) (fun hg => by (have hg2 := hg; (simp only [Bool.and_eq_true, Bool.or_eq_true, Bool.not_eq_true', decide_eq_true_eq, decide_eq_false_iff_not] at hg2)); exact r_move h rfl) rfl ?_
       clear h a w; intro a w h
       refine wvG h (by exact .t rfl) (fun hg => by (simp only [↓gval_on hg, ↓gval_and hg] at h); (have hg2 := hg; (simp only [Bool.and_eq_true, Bool.or_eq_true, Bool.not_eq_true', decide_eq_true_eq, decide_eq_false_iff_not] at hg2)); exact r_bin h rfl rfl (B.gtr_int)) rfl ?_
       clear h a w; intro a w h
       refine wv h (r_pickA h rfl rfl rfl) rfl ?_
       clear h a w; intro a w h
       refine wnil (c_then ?_)
       refine c_condP (p := near % 2 = 1 ∧ 0 < i) h rfl (by simp) (fun ht4 => ?_) (fun ht4 => ?_)
       ·
        have hy60 := z4 x0 ht4.2 hx0
        as_aux_lemma =>
         refine c_region ?_
         refine wv h (r_move h rfl) rfl ?_
         clear h a w; intro a w h
         refine wv h (r_elPv h rfl rfl K.u_S_S_uint8 K.sz_S_uint8 (((hv.cons _).cons _).cons _) 0 rfl (by omega)) rfl ?_
         clear h a w; intro a w h
         refine wv h (r_elG h rfl K.u_S_uint8 rfl (((hv.cons _).cons _).cons _) hyc) rfl ?_
         clear h a w; intro a w h
         refine wl rfl (op_appendnbs h rfl rfl K.u_S_uint8 K.sz_uint8 K.z_uint8 rfl rfl (Src.bytes K.u_S_uint8 (by exact ViewsB.of_drop 3 (by assumption)) h.2) (by omega) rfl ?_)
         clear h a w; intro v49 a w h
         refine wv h (r_move h rfl) rfl ?_
         clear h a w; intro a w h
         refine wl rfl (op_appendbs h rfl rfl K.u_S_uint8 K.sz_uint8 K.z_uint8 rfl rfl 0 rfl (Src.bytes K.u_S_uint8 (by exact ViewsB.own 1 rfl) h.2) (by omega) rfl ?_)
         clear h a w; intro v51 a w h
         (simp only [List.set_cons_zero, List.set_cons_succ] at h)
         refine wv h (r_assign h rfl) rfl ?_
         clear h a w; intro a w h
         refine wnil ?_
         replace h := h.mem (fun q => (q.front 1 rfl).tail)
         exact ⟨(v51, x0.p ++ x.p), h.keep [0, 1, 5, 6, 7], by simp only [List.length_append]; omega⟩
       ·
        refine c_skip ?_
        exact ⟨(v38, x.p), h.keep [0, 1, 5, 6, 7], by simp only; omega⟩
      ·
       clear h a w; intro z a w hz h
       obtain ⟨xv, p⟩ := z
       simp only at hz h
       refine c_meet h (X := Value × List UInt8) (fun z => [(0, v0), (1, bv near), (5, v5), (6, .int .i64 (i : Int)), (7, z.1)]) (fun z => OwnB z.1 z.2 :: OwnM 1 cellsS v5 ys :: BytI ys :: F) (fun z => 0 < z.2.length ∧ z.2.length ≤ 120) ?_ ?_
       ·
        refine c_seq (c_region ?_)
        refine wv h (r_move h rfl) rfl ?_
        clear h a w; intro a w h
        refine wv h (r_lenB h rfl K.u_S_uint8 (by exact ViewsB.own 0 rfl)) rfl ?_
        clear h a w; intro a w h
        refine wv h (r_bin h rfl rfl (B.eql_int)) rfl ?_
        clear h a w; intro a w h
        refine wnil (c_then ?_)
        refine c_condP (p := p.length = 0) h rfl (by simp) (fun ht5 => ?_) (fun ht5 => ?_)
        ·
         as_aux_lemma =>
          refine c_region ?_
          refine wv h (r_move h rfl) rfl ?_
          clear h a w; intro a w h
          refine wl rfl (op_buildSlice h K.u_S_uint8 K.sz_uint8 K.z_uint8 rfl rfl rfl rfl rfl (by simp [Value.cells, bv, w32, w64, sv]) rfl ?_)
          clear h a w; intro b56 a w h
          replace h := h.toOwnb [near] (NF.zero _) rfl rfl
          refine wv h (r_assign h rfl) rfl ?_
          clear h a w; intro a w h
          refine wnil ?_
          replace h := h.mem (fun q => (q.front 1 rfl).tail)
          exact ⟨(_, [near]), h.keep [0, 1, 5, 6, 7], by simp⟩
        ·
         refine c_skip ?_
         exact ⟨(xv, p), h.keep [0, 1, 5, 6, 7], by simp only; omega⟩
       ·
        clear h a w; intro z a w hz h
        obtain ⟨pv, p⟩ := z
        obtain ⟨y1, y2⟩ := hz
        simp only at y1 y2 h
        obtain ⟨A, cap, hpv, _⟩ := (Views.own 0 rfl : ViewsB (OwnB pv p :: _) pv p).shape h.2
        obtain ⟨u, hu⟩ : ∃ x : SlV, x = ⟨A, p.length, cap, p⟩ := ⟨_, rfl⟩
        have huv : u.v = pv := by rw [hu, hpv]
        have hup : u.p = p := by rw [hu]
        rw [← huv, ← hup] at h
        rw [← hup] at y1 y2
        refine c_region ?_
        refine wv h (r_move h rfl) rfl ?_
        clear h a w; intro a w h
        refine wv h (r_move h rfl) rfl ?_
        clear h a w; intro a w h
        refine wl rfl (op_buildO h K.u_S_S_uint8 K.sz_S_uint8 K.z_S_uint8 rfl rfl rfl rfl (by simp only [List.mem_cons, List.not_mem_nil, or_false, forall_eq_or_imp, forall_eq]; (repeat' apply And.intro) <;> rfl) rfl ?_)
        clear h a w; intro b59 a w h
        refine wl rfl (op_appendR1 (cells := cellsS) (u := u) h rfl rfl K.u_S_S_uint8 K.sz_S_uint8 K.z_S_uint8 rfl rfl 1 rfl (by omega) rfl ?_)
        clear h a w; intro v60 a w h
        simp only [List.set_cons_succ, List.set_cons_zero] at h
        refine wv h (r_assign h rfl) rfl ?_
        clear h a w; intro a w h
        refine wnil ?_
        refine b_normal ?_
        refine c_then ?_
        refine c_region ?_
        refine wv h (r_move h rfl) rfl ?_
        clear h a w; intro a w h
        refine wv h (r_bin h rfl rfl (B.add_i64 (by omega) (by omega))) rfl ?_
        clear h a w; intro a w h
        refine wv h (r_assign h rfl) rfl ?_
        clear h a w; intro a w h
        refine wnil ?_
        replace h := h.mem (fun q => ((satBytMore (x := u) (q.front 2 rfl)).front 1 rfl))
        refine ⟨(i + 1, v60, ys ++ [u]), h.keep [0, 1, 5, 6], ⟨ht2, by simp [z2], fun y hy => ?_, fun x' _ hx' => ?_⟩, by simp only; omega⟩
        · rcases List.mem_append.1 hy with hy | hy
          · exact z3 y hy
          · simp only [List.mem_singleton] at hy; subst hy; exact ⟨y1, y2⟩
        · rcases Nat.eq_zero_or_pos i with e | e
          · subst e
            rw [hx] at hx'; cases hx'
            omega
          · exact z4 x' e hx'
    ·
     have hok : ∀ y ∈ ys, OkP y.p := fun y hy => by have := z3 y hy; unfold OkP; omega
     obtain ⟨hl1, hl2⟩ := packP_len hok (by omega)
     have he := encP_pack hok (by omega)
     have hsl := (seal_back (packP ys)).1
     have hag : ∀ ws : List SlV, ws.map (·.p) = bytesI (srtd ys) → bytesI (srtd ws) = bytesI (srtd ys) := fun ws hw => srtd_again hw
     refine c_exit ?_
     refine e_then ?_
     refine e_then ?_
     refine e_here ?_
     refine c_then ?_
     refine c_seq (c_region ?_)
     refine wv h (r_move h rfl) rfl ?_
     clear h a w; intro a w h
     refine wl rfl (op_call h rfl K.go_pack_Encode (pack_Encode s _ v5 ys _ ((hT.cons _).cons _) ((hF.cons _).cons _) ((hC.cons _).cons _) (Views.own 0 rfl) (fun y hy => ⟨BytI.view 1 rfl y hy, by have := z3 y hy; omega⟩) (by omega) h.2) rfl ?_)
     clear h a w; intro v63 a w hz63 h
     rw [he] at h
     simp only [Option.isSome_some, Option.getD_some, if_true] at h
     refine wv h (r_move h rfl) rfl ?_
     clear h a w; intro a w h
     refine wv h (r_extractN h rfl rfl) rfl ?_
     clear h a w; intro a w h
     refine wv h (r_extractN h rfl rfl) rfl ?_
     clear h a w; intro a w h
     refine wv h (r_assign h rfl) rfl ?_
     clear h a w; intro a w h
     refine wv h (r_assign h rfl) rfl ?_
     clear h a w; intro a w h
     refine wnil (c_then ?_)
     refine c_seq (c_region ?_)
     refine wv h (r_move h rfl) rfl ?_
     clear h a w; intro a w h
     refine wl rfl (op_call h rfl K.go_pack_Decode (pack_Decode s _ v63 (sealP (packP ys)) _ (((hT.cons _).cons _).cons _) (((hF.cons _).cons _).cons _) (((hC.cons _).cons _).cons _) (Views.own 0 rfl) (by omega) h.2) rfl ?_)
     clear h a w; intro z68 a w hde h
     obtain ⟨v68, e68, zs⟩ := z68
     simp only at hde h
     obtain ⟨d1, d2⟩ := hde.back (bytesI (srtd ys)) (bytesI_ok hok) (by have := bytesI_len ys; omega) rfl hag
     rw [d1] at h
     have hzl2 := srtx_len ys
     have hzl : zs.length = (srtx ys).length := by have := congrArg List.length d2; rw [List.length_map, ← srtx_p, List.length_map] at this; exact this
     refine wv h (r_move h rfl) rfl ?_
     clear h a w; intro a w h
     refine wv h (r_extractN h rfl rfl) rfl ?_
     clear h a w; intro a w h
     refine wv h (r_extractN h rfl rfl) rfl ?_
     clear h a w; intro a w h
     refine wv h (r_assign h rfl) rfl ?_
     clear h a w; intro a w h
     refine wv h (r_assign h rfl) rfl ?_
     clear h a w; intro a w h
     refine wnil (c_then ?_)
     refine c_seq (c_region ?_)
     refine wv h (r_move h rfl) rfl ?_
     clear h a w; intro a w h
     refine wl rfl (op_call h rfl K.go_ref15_Sorted (ref_Sorted s _ v5 ys _ (Views.own 3 rfl) (fun y hy => ⟨BytI.view 4 rfl y hy, by have := z3 y hy; omega⟩) (by omega) h.2) rfl ?_)
     clear h a w; intro v72 a w hz72 h
     refine wv h (r_assign h rfl) rfl ?_
     clear h a w; intro a w h
     refine wnil (c_then ?_)
     refine c_seq ?_
     refine c_seq (c_drawn 21 K.mixed rfl h ?_)
     clear h a w; intro a w h
     have hD : Paid s w [] := Paid.nil
     refine d_take0 (listed' := #[true, false, false, false, false, false, false, false, false, false, false, false, false, false, false, false, false, false, false, false, false]) h hD 0 (by as_aux_lemma => kernel_rfl) rfl (by as_aux_lemma => kernel_rfl) (by as_aux_lemma => kernel_rfl) (by as_aux_lemma => kernel_rfl) (fun _ _ _ _ hh => hh) (fun w h => by exact r_move h rfl) rfl ?_
     clear hD h a w; intro a w h hD
     refine d_take0 (listed' := #[true, true, false, false, false, false, false, false, false, false, false, false, false, false, false, false, false, false, false, false, false]) h hD 1 (by as_aux_lemma => kernel_rfl) rfl (by as_aux_lemma => kernel_rfl) (by as_aux_lemma => kernel_rfl) (by as_aux_lemma => kernel_rfl) (fun _ _ _ _ hh => hh) (fun w h => by exact r_bin h rfl rfl (B.neq_int)) rfl ?_
     clear hD h a w; intro a w h hD
     refine d_take0 (listed' := #[true, true, true, false, false, false, false, false, false, false, false, false, false, false, false, false, false, false, false, false, false]) h hD 2 (by as_aux_lemma => kernel_rfl) rfl (by as_aux_lemma => kernel_rfl) (by as_aux_lemma => kernel_rfl) (by as_aux_lemma => kernel_rfl) (fun _ _ _ _ hh => hh) (fun w h => by exact r_move h rfl) rfl ?_
     clear hD h a w; intro a w h hD
     refine d_take0G (listed' := #[true, true, true, true, false, false, false, false, false, false, false, false, false, false, false, false, false, false, false, false, false]) h hD 3 (by as_aux_lemma => kernel_rfl) rfl (by as_aux_lemma => kernel_rfl) (by as_aux_lemma => kernel_rfl) (by as_aux_lemma => kernel_rfl) (fun _ _ _ _ hh => hh) (by exact .f rfl) (fun hg w h => by (have hg2 := hg; (simp only [Bool.and_eq_true, Bool.or_eq_true, Bool.not_eq_true', decide_eq_true_eq, decide_eq_false_iff_not] at hg2)); exact r_move h rfl) rfl ?_
     clear hD h a w; intro a w h hD
     refine d_takeG (listed' := #[true, true, true, true, true, false, false, false, false, false, false, false, false, false, false, false, false, false, false, false, false]) h hD 4 _ (by as_aux_lemma => kernel_rfl) rfl (by as_aux_lemma => kernel_rfl) (by as_aux_lemma => kernel_rfl) (by as_aux_lemma => kernel_rfl) (fun _ _ _ _ hh => hh) h.2 (by exact .f rfl) (fun hg w hw => by (simp only [↓gval_on hg, ↓gval_and hg] at h); (have hg2 := hg; (simp only [Bool.and_eq_true, Bool.or_eq_true, Bool.not_eq_true', decide_eq_true_eq, decide_eq_false_iff_not] at hg2)); exact r_b2sb ⟨h.1, hw⟩ rfl K.u_S_uint8 K.u_uint8 K.u_string (by exact ViewsB.own 3 rfl)) rfl ?_
     clear hD h a w; intro a w h hD
     refine d_take0G (listed' := #[true, true, true, true, true, true, false, false, false, false, false, false, false, false, false, false, false, false, false, false, false]) h hD 5 (by as_aux_lemma => kernel_rfl) rfl (by as_aux_lemma => kernel_rfl) (by as_aux_lemma => kernel_rfl) (by as_aux_lemma => kernel_rfl) (fun _ _ _ _ hh => hh) (by exact .f rfl) (fun hg w h => by (simp only [↓gval_on hg, ↓gval_and hg] at h); (have hg2 := hg; (simp only [Bool.and_eq_true, Bool.or_eq_true, Bool.not_eq_true', decide_eq_true_eq, decide_eq_false_iff_not] at hg2)); exact r_move h rfl) rfl ?_
     clear hD h a w; intro a w h hD
     refine d_onlyG (listed' := #[true, true, true, true, true, true, true, false, false, false, false, false, false, false, false, false, false, false, false, false, false]) h hD 6 [true] (by as_aux_lemma => kernel_rfl) rfl rfl (by exact .f rfl) (by as_aux_lemma => kernel_rfl) (by as_aux_lemma => kernel_rfl) (fun hg => ?_) (fun hg => by cases hg)
     refine op_call h rfl K.go_ref15_Pack (ref_Pack s _ v5 ys _ (Views.own 4 rfl) (fun y hy => ⟨BytI.view 5 rfl y hy, by have := z3 y hy; omega⟩) (by omega) h.2) rfl ?_
     clear hD h a w; intro v79 a w hz79 h
     rw [show headP (bytesI (srtd ys)).length ++ tailP none 0 (bytesI (srtd ys)) = packP ys from rfl] at h
     refine d_pay (Paid.cons (by exact h.2.drop 1) (Paid.nil)) (fun hD => ?_)
     refine d_takeG (listed' := #[true, true, true, true, true, true, true, true, false, false, false, false, false, false, false, false, false, false, false, false, false]) h hD 7 _ (by as_aux_lemma => kernel_rfl) rfl (by as_aux_lemma => kernel_rfl) (by as_aux_lemma => kernel_rfl) (by as_aux_lemma => kernel_rfl) (fun _ _ _ _ hh => hh) h.2 (by exact .f rfl) (fun hg w hw => by (simp only [↓gval_on hg, ↓gval_and hg] at h); (have hg2 := hg; (simp only [Bool.and_eq_true, Bool.or_eq_true, Bool.not_eq_true', decide_eq_true_eq, decide_eq_false_iff_not] at hg2)); exact r_b2sb ⟨h.1, hw⟩ rfl K.u_S_uint8 K.u_uint8 K.u_string (by exact ViewsB.own 0 rfl)) rfl ?_
     clear hD h a w; intro a w h hD
     refine d_take0G (listed' := #[true, true, true, true, true, true, true, true, true, false, false, false, false, false, false, false, false, false, false, false, false]) h hD 8 (by as_aux_lemma => kernel_rfl) rfl (by as_aux_lemma => kernel_rfl) (by as_aux_lemma => kernel_rfl) (by as_aux_lemma => kernel_rfl) (fun _ _ _ _ hh => hh) (by exact .f rfl) (fun hg w h => by (simp only [↓gval_on hg, ↓gval_and hg] at h); (have hg2 := hg; (simp only [Bool.and_eq_true, Bool.or_eq_true, Bool.not_eq_true', decide_eq_true_eq, decide_eq_false_iff_not] at hg2)); exact r_strne h rfl rfl) rfl ?_
     clear hD h a w; intro a w h hD
     refine d_take0 (listed' := #[true, true, true, true, true, true, true, true, true, true, false, false, false, false, false, false, false, false, false, false, false]) h hD 9 (by as_aux_lemma => kernel_rfl) rfl (by as_aux_lemma => kernel_rfl) (by as_aux_lemma => kernel_rfl) (by as_aux_lemma => kernel_rfl) (fun _ _ _ _ hh => hh) (fun w h => by exact r_pickO h rfl rfl rfl) rfl ?_
     clear hD h a w; intro a w h hD
     refine d_take0 (listed' := #[true, true, true, true, true, true, true, true, true, true, true, false, false, false, false, false, false, false, false, false, false]) h hD 10 (by as_aux_lemma => kernel_rfl) rfl (by as_aux_lemma => kernel_rfl) (by as_aux_lemma => kernel_rfl) (by as_aux_lemma => kernel_rfl) (fun _ _ _ _ hh => hh) (fun w h => by exact r_move h rfl) rfl ?_
     clear hD h a w; intro a w h hD
     refine d_take0G (listed' := #[true, true, true, true, true, true, true, true, true, true, true, true, false, false, false, false, false, false, false, false, false]) h hD 11 (by as_aux_lemma => kernel_rfl) rfl (by as_aux_lemma => kernel_rfl) (by as_aux_lemma => kernel_rfl) (by as_aux_lemma => kernel_rfl) (fun _ _ _ _ hh => hh) (by exact .f rfl) (fun hg w h => by (have hg2 := hg; (simp only [Bool.and_eq_true, Bool.or_eq_true, Bool.not_eq_true', decide_eq_true_eq, decide_eq_false_iff_not] at hg2)); exact r_move h rfl) rfl ?_
     clear hD h a w; intro a w h hD
     refine d_take0G (listed' := #[true, true, true, true, true, true, true, true, true, true, true, true, true, false, false, false, false, false, false, false, false]) h hD 12 (by as_aux_lemma => kernel_rfl) rfl (by as_aux_lemma => kernel_rfl) (by as_aux_lemma => kernel_rfl) (by as_aux_lemma => kernel_rfl) (fun _ _ _ _ hh => hh) (by exact .f rfl) (fun hg w h => by (simp only [↓gval_on hg, ↓gval_and hg] at h); (have hg2 := hg; (simp only [Bool.and_eq_true, Bool.or_eq_true, Bool.not_eq_true', decide_eq_true_eq, decide_eq_false_iff_not] at hg2)); exact r_bin h rfl rfl (B.neq_int)) rfl ?_
     clear hD h a w; intro a w h hD
     refine d_take0 (listed' := #[true, true, true, true, true, true, true, true, true, true, true, true, true, true, false, false, false, false, false, false, false]) h hD 13 (by as_aux_lemma => kernel_rfl) rfl (by as_aux_lemma => kernel_rfl) (by as_aux_lemma => kernel_rfl) (by as_aux_lemma => kernel_rfl) (fun _ _ _ _ hh => hh) (fun w h => by exact r_pickO h rfl rfl rfl) rfl ?_
     clear hD h a w; intro a w h hD
     refine d_take0 (listed' := #[true, true, true, true, true, true, true, true, true, true, true, true, true, true, true, false, false, false, false, false, false]) h hD 14 (by as_aux_lemma => kernel_rfl) rfl (by as_aux_lemma => kernel_rfl) (by as_aux_lemma => kernel_rfl) (by as_aux_lemma => kernel_rfl) (fun _ _ _ _ hh => hh) (fun w h => by exact r_move h rfl) rfl ?_
     clear hD h a w; intro a w h hD
     refine d_take0G (listed' := #[true, true, true, true, true, true, true, true, true, true, true, true, true, true, true, true, false, false, false, false, false]) h hD 15 (by as_aux_lemma => kernel_rfl) rfl (by as_aux_lemma => kernel_rfl) (by as_aux_lemma => kernel_rfl) (by as_aux_lemma => kernel_rfl) (fun _ _ _ _ hh => hh) (by exact .f rfl) (fun hg w h => by (have hg2 := hg; (simp only [Bool.and_eq_true, Bool.or_eq_true, Bool.not_eq_true', decide_eq_true_eq, decide_eq_false_iff_not] at hg2)); exact r_move h rfl) rfl ?_
     clear hD h a w; intro a w h hD
     refine d_takeG (listed' := #[true, true, true, true, true, true, true, true, true, true, true, true, true, true, true, true, true, false, false, false, false]) h hD 16 _ (by as_aux_lemma => kernel_rfl) rfl (by as_aux_lemma => kernel_rfl) (by as_aux_lemma => kernel_rfl) (by as_aux_lemma => kernel_rfl) (fun _ _ _ _ hh => hh) h.2 (by exact .f rfl) (fun hg w hw => by (simp only [↓gval_on hg, ↓gval_and hg] at h); (have hg2 := hg; (simp only [Bool.and_eq_true, Bool.or_eq_true, Bool.not_eq_true', decide_eq_true_eq, decide_eq_false_iff_not] at hg2)); exact r_lenV ⟨h.1, hw⟩ rfl K.u_S_S_uint8 (by exact Views.own 2 rfl)) rfl ?_
     clear hD h a w; intro a w h hD
     refine d_take0G (listed' := #[true, true, true, true, true, true, true, true, true, true, true, true, true, true, true, true, true, true, false, false, false]) h hD 17 (by as_aux_lemma => kernel_rfl) rfl (by as_aux_lemma => kernel_rfl) (by as_aux_lemma => kernel_rfl) (by as_aux_lemma => kernel_rfl) (fun _ _ _ _ hh => hh) (by exact .f rfl) (fun hg w h => by (simp only [↓gval_on hg, ↓gval_and hg] at h); (have hg2 := hg; (simp only [Bool.and_eq_true, Bool.or_eq_true, Bool.not_eq_true', decide_eq_true_eq, decide_eq_false_iff_not] at hg2)); exact r_move h rfl) rfl ?_
     clear hD h a w; intro a w h hD
     refine d_takeG (listed' := #[true, true, true, true, true, true, true, true, true, true, true, true, true, true, true, true, true, true, true, false, false]) h hD 18 _ (by as_aux_lemma => kernel_rfl) rfl (by as_aux_lemma => kernel_rfl) (by as_aux_lemma => kernel_rfl) (by as_aux_lemma => kernel_rfl) (fun _ _ _ _ hh => hh) h.2 (by exact .f rfl) (fun hg w hw => by (simp only [↓gval_on hg, ↓gval_and hg] at h); (have hg2 := hg; (simp only [Bool.and_eq_true, Bool.or_eq_true, Bool.not_eq_true', decide_eq_true_eq, decide_eq_false_iff_not] at hg2)); exact r_lenV ⟨h.1, hw⟩ rfl K.u_S_S_uint8 (by exact Views.own 1 rfl)) rfl ?_
     clear hD h a w; intro a w h hD
     refine d_take0G (listed' := #[true, true, true, true, true, true, true, true, true, true, true, true, true, true, true, true, true, true, true, true, false]) h hD 19 (by as_aux_lemma => kernel_rfl) rfl (by as_aux_lemma => kernel_rfl) (by as_aux_lemma => kernel_rfl) (by as_aux_lemma => kernel_rfl) (fun _ _ _ _ hh => hh) (by exact .f rfl) (fun hg w h => by (simp only [↓gval_on hg, ↓gval_and hg] at h); (have hg2 := hg; (simp only [Bool.and_eq_true, Bool.or_eq_true, Bool.not_eq_true', decide_eq_true_eq, decide_eq_false_iff_not] at hg2)); exact r_bin h rfl rfl (B.neq_int)) rfl ?_
     clear hD h a w; intro a w h hD
     refine d_take0 (listed' := #[true, true, true, true, true, true, true, true, true, true, true, true, true, true, true, true, true, true, true, true, true]) h hD 20 (by as_aux_lemma => kernel_rfl) rfl (by as_aux_lemma => kernel_rfl) (by as_aux_lemma => kernel_rfl) (by as_aux_lemma => kernel_rfl) (fun _ _ _ _ hh => hh) (fun w h => by exact r_pickO h rfl rfl rfl) rfl ?_
     clear hD h a w; intro a w h hD
     refine d_done (by kernel_rfl) ?_
     clear hD
     refine c_then ?_
     refine c_condP (p := False) h rfl (by simp [hzl]) (fun ht6 => ?_) (fun ht6 => ?_)
     ·
      exact ht6.elim
     ·
      refine c_skip ?_
      refine c_then ?_
      refine c_seq ?_
      refine c_seq (c_region ?_)
      refine wv h (r_assign h rfl) rfl ?_
      clear h a w; intro a w h
      refine wnil (c_then ?_)
      refine c_block ?_
      refine c_loop (X := Nat) (fun z => [(10, v68), (12, v72), (13, .int .i64 (z : Int))]) (fun z => OwnB v79 (sealP (packP ys)) :: OwnL SlV.v v72 (srtx ys) :: OwnM 1 cellsS v68 zs :: BytI zs :: OwnB v63 (sealP (packP ys)) :: OwnM 1 cellsS v5 ys :: BytI ys :: F)
        (fun z => z ≤ zs.length) (fun z => zs.length - z) 0 (h.keep [10, 12, 13]) (Nat.zero_le _) ?_
      clear h a w; intro j a w hj h
      as_aux_lemma =>
       refine c_seq ?_
       refine c_seq (c_region ?_)
       refine wv h (r_move h rfl) rfl ?_
       clear h a w; intro a w h
       refine wv h (r_move h rfl) rfl ?_
       clear h a w; intro a w h
       refine wv h (r_lenV h rfl K.u_S_S_uint8 (by exact Views.own 2 rfl)) rfl ?_
       clear h a w; intro a w h
       refine wv h (r_bin h rfl rfl (B.lss_int)) rfl ?_
       clear h a w; intro a w h
       refine wnil (c_then ?_)
       refine c_condP (p := j < zs.length) h rfl (by simp) (fun ht7 => ?_) (fun ht7 => ?_)
       ·
        obtain ⟨zj, hzj⟩ : ∃ x, zs[j]? = some x := ⟨_, List.getElem?_eq_getElem ht7⟩
        obtain ⟨sj, hsj⟩ : ∃ x, (srtx ys)[j]? = some x := ⟨_, List.getElem?_eq_getElem (by omega)⟩
        have hzc : (zs.flatMap cellsS)[j * 1]? = some zj.v := by rw [flatS, Nat.mul_one, List.getElem?_map, hzj]; rfl
        have hsc : ((srtx ys).map SlV.v)[j * 1]? = some sj.v := by rw [Nat.mul_one, List.getElem?_map, hsj]; rfl
        have hpp : zj.p = sj.p := by
          have e := congrArg (fun l : List (List UInt8) => l[j]?) d2
          simp only [← srtx_p, List.getElem?_map, hzj, hsj, Option.map_some] at e
          exact Option.some.inj e
        have hzm := List.mem_of_getElem? hzj
        have hsm := srtx_mem (List.mem_of_getElem? hsj)
        refine c_skip ?_
        refine c_then ?_
        refine c_seq ?_
        refine c_block ?_
        refine c_seq (c_draw K.mixed (by kernel_rfl) h ?_)
        clear h a w; intro a hE
        refine qv hE (fun w hw => r_move ⟨hE, hw⟩ rfl) rfl ?_
        clear hE a; intro a hE
        refine qv hE (fun w hw => r_move ⟨hE, hw⟩ rfl) rfl ?_
        clear hE a; intro a hE
        refine qv hE (fun w hw => r_elPv ⟨hE, hw⟩ rfl rfl K.u_S_S_uint8 K.sz_S_uint8 (Views.own 2 rfl) j rfl ht7) rfl ?_
        clear hE a; intro a hE
        refine qv hE (fun w hw => r_elG ⟨hE, hw⟩ rfl K.u_S_uint8 rfl (Views.own 2 rfl) hzc) rfl ?_
        clear hE a; intro a hE
        refine qv hE (fun w hw => r_b2sb ⟨hE, hw⟩ rfl K.u_S_uint8 K.u_uint8 K.u_string (BytI.view 3 rfl zj hzm)) rfl ?_
        clear hE a; intro a hE
        refine qv hE (fun w hw => r_move ⟨hE, hw⟩ rfl) rfl ?_
        clear hE a; intro a hE
        refine qv hE (fun w hw => r_move ⟨hE, hw⟩ rfl) rfl ?_
        clear hE a; intro a hE
        refine qv hE (fun w hw => r_elPv ⟨hE, hw⟩ rfl rfl K.u_S_S_uint8 K.sz_S_uint8 (Views.own 1 rfl) j rfl (by omega)) rfl ?_
        clear hE a; intro a hE
        refine qv hE (fun w hw => r_elG ⟨hE, hw⟩ rfl K.u_S_uint8 rfl (Views.own 1 rfl) hsc) rfl ?_
        clear hE a; intro a hE
        refine qv hE (fun w hw => r_b2sb ⟨hE, hw⟩ rfl K.u_S_uint8 K.u_uint8 K.u_string (BytI.view 6 rfl sj hsm)) rfl ?_
        clear hE a; intro a hE
        refine qv hE (fun w hw => r_strne ⟨hE, hw⟩ rfl rfl) rfl ?_
        clear hE a; intro a hE
        refine qnil hE ?_
        clear hE a; intro a w h
        refine c_then ?_
        refine c_condP (p := False) h rfl (by simp [hpp]) (fun ht8 => ?_) (fun ht8 => ?_)
        ·
         exact ht8.elim
        ·
         refine c_skip ?_
         refine b_normal ?_
         refine c_then ?_
         refine c_region ?_
         refine wv h (r_move h rfl) rfl ?_
         clear h a w; intro a w h
         refine wv h (r_bin h rfl rfl (B.add_i64 (by omega) (by omega))) rfl ?_
         clear h a w; intro a w h
         refine wv h (r_assign h rfl) rfl ?_
         clear h a w; intro a w h
         refine wnil ?_
         exact ⟨j + 1, h.keep [10, 12, 13], ht7, by omega⟩
       ·
        refine c_exit ?_
        refine e_then ?_
        refine e_then ?_
        refine e_here ?_
        refine c_then ?_
        refine c_seq (c_region ?_)
        refine wv h (r_assign h rfl) rfl ?_
        clear h a w; intro a w h
        refine wnil (c_then ?_)
        refine c_ret ?_
        exact ret1 h rfl rfl ⟨(), rfl, h.2.drop 7, trivial⟩
end Go.Proofs.K

/- A sealed sector of which some bits within 32 are turned isn't sealed any more: the register is linear, and loses nothing. Plain Lean. -/
namespace Go.Sl

theorem crcT_zero : crcT 0 = 0 := by decide
theorem crcT_eq_zero {z : UInt32} (h : crcT z = 0) : z = 0 := by
  unfold crcT at h
  have h1 := shr1 z
  have h2 := and1 z
  have hz := z.toNat_lt
  rcases and1_cases z with e | e
  · rw [e, if_neg (by decide)] at h
    have h3 : z >>> 1 = 0 := by simpa using h
    have h4 := congrArg UInt32.toNat h3
    have h5 := congrArg UInt32.toNat e
    rw [h1] at h4; rw [h2] at h5
    apply UInt32.toNat_inj.1
    simp at h4 h5 ⊢; omega
  · rw [e, if_pos rfl] at h
    have h3 : z >>> 1 = 2197175160 := by
      have := congrArg (· ^^^ (2197175160 : UInt32)) h
      simpa [UInt32.xor_assoc] using this
    have h4 := congrArg UInt32.toNat h3
    rw [h1] at h4
    simp at h4; omega
theorem xor_eq_zero {x y : UInt32} (h : x ^^^ y = 0) : x = y := by
  have := congrArg (· ^^^ y) h
  simpa [UInt32.xor_assoc] using this
theorem crcT_inj {x y : UInt32} (h : crcT x = crcT y) : x = y := by
  apply xor_eq_zero
  apply crcT_eq_zero
  rw [crcT_xor, h]; simp
def crcTn : Nat → UInt32 → UInt32
  | 0, x => x
  | n + 1, x => crcTn n (crcT x)
theorem crcTn_inj : ∀ (n : Nat) {x y : UInt32}, crcTn n x = crcTn n y → x = y
  | 0, _, _, h => h
  | n + 1, _, _, h => crcT_inj (crcTn_inj n h)
theorem crcTn_zero : ∀ n, crcTn n 0 = 0
  | 0 => rfl
  | n + 1 => by rw [crcTn, crcT_zero, crcTn_zero n]
theorem crcTn_xor : ∀ (n : Nat) (x y : UInt32), crcTn n (x ^^^ y) = crcTn n x ^^^ crcTn n y
  | 0, _, _ => rfl
  | n + 1, x, y => by simp only [crcTn, crcT_xor, crcTn_xor n]

/-! bits -/
def bU (x : Bool) : UInt32 := if x then 1 else 0
def crcL (r : UInt32) (l : List Bool) : UInt32 := l.foldl (fun r x => crcT (r ^^^ bU x)) r
def bitsB (b : UInt8) : List Bool := [b.toNat.testBit 0, b.toNat.testBit 1, b.toNat.testBit 2, b.toNat.testBit 3, b.toNat.testBit 4, b.toNat.testBit 5, b.toNat.testBit 6, b.toNat.testBit 7]
def bitsOf (l : List UInt8) : List Bool := l.flatMap bitsB
theorem bU_bit (b : UInt8) (j : Nat) : bU (b.toNat.testBit j) = bitU b j := by
  unfold bU bitU
  rw [Nat.testBit_eq_decide_div_mod_eq]
  rcases Nat.mod_two_eq_zero_or_one (b.toNat / 2 ^ j) with h | h <;> rw [h] <;> rfl
theorem crcL_byte (r : UInt32) (b : UInt8) : crcL r (bitsB b) = crcB r b := by
  rw [← crcJ_byte]
  simp only [crcL, bitsB, List.foldl_cons, List.foldl_nil, bU_bit, crcJ]
theorem crcL_append (r : UInt32) (l m : List Bool) : crcL r (l ++ m) = crcL (crcL r l) m := by simp [crcL]
theorem crcL_bytes : ∀ (l : List UInt8) (r : UInt32), crcL r (bitsOf l) = crcR r l
  | [], r => rfl
  | b :: l, r => by
    show crcL r (bitsB b ++ bitsOf l) = crcR (crcB r b) l
    rw [crcL_append, crcL_byte, crcL_bytes l]
theorem crcL_xor : ∀ (l m : List Bool) (r r' : UInt32), l.length = m.length → crcL (r ^^^ r') (List.zipWith xor l m) = crcL r l ^^^ crcL r' m
  | [], [], _, _, _ => rfl
  | [], _ :: _, _, _, h => by simp at h
  | _ :: _, [], _, _, h => by simp at h
  | a :: l, b :: m, r, r', h => by
    have := crcL_xor l m (crcT (r ^^^ bU a)) (crcT (r' ^^^ bU b)) (by simpa using h)
    have e : bU (xor a b) = bU a ^^^ bU b := by cases a <;> cases b <;> decide
    show crcL (crcT (r ^^^ r' ^^^ bU (xor a b))) _ = crcL (crcT (r ^^^ bU a)) l ^^^ crcL (crcT (r' ^^^ bU b)) m
    rw [← this, e, xor_swap, crcT_xor]
theorem crcL_false (n : Nat) (r : UInt32) : crcL r (List.replicate n false) = crcTn n r := by
  induction n generalizing r with
  | zero => rfl
  | succ n ih =>
    show crcL (crcT (r ^^^ bU false)) (List.replicate n false) = crcTn n (crcT r)
    rw [ih]; simp [bU]
def bitsN : List Bool → Nat
  | [] => 0
  | b :: r => (if b then 1 else 0) + 2 * bitsN r
theorem bitsN_lt : ∀ (l : List Bool), bitsN l < 2 ^ l.length
  | [] => by simp [bitsN]
  | b :: r => by
    have := bitsN_lt r
    simp only [bitsN, List.length_cons, Nat.pow_succ]
    split <;> omega
theorem bitsN_zero : ∀ (l : List Bool), bitsN l = 0 ↔ ∀ x ∈ l, x = false
  | [] => by simp [bitsN]
  | b :: r => by
    have := bitsN_zero r
    cases b
    · simp only [bitsN, Bool.false_eq_true, if_false, Nat.zero_add, List.mem_cons, forall_eq_or_imp, true_and]
      rw [← this]; omega
    · simp [bitsN]
theorem bitsN_append : ∀ (l m : List Bool), bitsN (l ++ m) = bitsN l + 2 ^ l.length * bitsN m
  | [], m => by simp [bitsN]
  | b :: l, m => by
    simp only [List.cons_append, bitsN, List.length_cons, bitsN_append l m, Nat.pow_succ, Nat.mul_add]
    rw [Nat.mul_comm (2 ^ l.length) 2, Nat.mul_assoc]; omega
theorem bitsN_byte (b : UInt8) : bitsN (bitsB b) = b.toNat := by
  have h : ∀ n < 256, bitsN (bitsB (UInt8.ofNat n)) = n := by decide +kernel
  have := h b.toNat b.toNat_lt
  simpa using this
theorem bitsN_bytes : ∀ (l : List UInt8), bitsN (bitsOf l) = leN l
  | [] => rfl
  | b :: l => by
    show bitsN (bitsB b ++ bitsOf l) = b.toNat + 256 * leN l
    have h8 : 2 ^ (bitsB b).length = 256 := by simp [bitsB]
    rw [bitsN_append, bitsN_byte, bitsN_bytes l, h8]
theorem bitsOf_len (l : List UInt8) : (bitsOf l).length = 8 * l.length := by
  induction l with
  | nil => rfl
  | cons b l ih =>
    show (bitsB b ++ bitsOf l).length = _
    rw [List.length_append, ih]; simp [bitsB]; omega
/-- what few bits do to the register: as if they all were in it at once -/
theorem crcL_closed : ∀ (l : List Bool) (r : UInt32), l.length ≤ 32 → crcL r l = crcTn l.length (r ^^^ UInt32.ofNat (bitsN l))
  | [], r, _ => by simp [crcL, crcTn, bitsN]
  | b :: l, r, h => by
    simp only [List.length_cons] at h ⊢
    have ih := crcL_closed l (crcT (r ^^^ bU b)) (by omega)
    have hlt := bitsN_lt l
    have hp : 2 ^ l.length ≤ 2 ^ 31 := Nat.pow_le_pow_right (by omega) (by omega)
    show crcL (crcT (r ^^^ bU b)) l = crcTn l.length (crcT (r ^^^ UInt32.ofNat (bitsN (b :: l))))
    rw [ih]
    congr 1
    have he : UInt32.ofNat (bitsN (b :: l)) = bU b ^^^ UInt32.ofNat (2 * bitsN l) := by
      apply UInt32.toNat_inj.1
      rw [UInt32.toNat_xor, UInt32.toNat_ofNat', UInt32.toNat_ofNat', Nat.mod_eq_of_lt (by simp only [bitsN]; split <;> omega), Nat.mod_eq_of_lt (by omega)]
      cases b
      · simp [bitsN, bU]
      · have : (1 : Nat) ^^^ 2 * bitsN l = 1 + 2 * bitsN l := by
          apply Nat.eq_of_testBit_eq
          intro i
          rw [Nat.testBit_xor]
          cases i with
          | zero => simp
          | succ i => rw [Nat.testBit_succ, Nat.testBit_succ, Nat.testBit_succ, show (1 + 2 * bitsN l) / 2 = bitsN l by omega, show 2 * bitsN l / 2 = bitsN l by omega]; simp
        show bitsN (true :: l) = (1 : UInt32).toNat ^^^ 2 * bitsN l
        rw [show (1 : UInt32).toNat = 1 from rfl, this]; rfl
    have hs : crcT (UInt32.ofNat (2 * bitsN l)) = UInt32.ofNat (bitsN l) := by
      have e1 : (UInt32.ofNat (2 * bitsN l)).toNat = 2 * bitsN l := by rw [UInt32.toNat_ofNat', Nat.mod_eq_of_lt (by omega)]
      rw [crcT_even _ (by omega)]
      apply UInt32.toNat_inj.1
      rw [shr1, e1, UInt32.toNat_ofNat', Nat.mod_eq_of_lt (by omega)]; omega
    rw [he, ← UInt32.xor_assoc, crcT_xor (r ^^^ bU b), hs]

/-! what it is to be sealed -/
theorem leN_inj : ∀ (l m : List UInt8), l.length = m.length → leN l = leN m → l = m
  | [], [], _, _ => rfl
  | [], _ :: _, h, _ => by simp at h
  | _ :: _, [], h, _ => by simp at h
  | a :: l, b :: m, h, e => by
    have ha := a.toNat_lt
    have hb := b.toNat_lt
    simp only [leN] at e
    have e1 : a.toNat = b.toNat := by omega
    rw [leN_inj l m (by simpa using h) (by omega), UInt8.toNat_inj.1 e1]
theorem seal_iff (l : List UInt8) (h : l.length = 64) : openN l = true ↔ crcR 4294967295 l = crcTn 32 4294967295 := by
  have hd : (l.take 60).length = 60 := by rw [List.length_take]; omega
  have ht : (l.drop 60).length = 4 := by rw [List.length_drop]; omega
  have hl : l.take 60 ++ l.drop 60 = l := List.take_append_drop 60 l
  have hpad : padN (l.take 60) = l.take 60 := by unfold padN; rw [hd, List.take_of_length_le (by omega)]; simp
  have hfl : ∀ u, (fourN u).length = 4 := fun _ => rfl
  have h1 : openN l = true ↔ fourN (crcN (l.take 60)) = l.drop 60 := by
    unfold openN
    rw [decide_eq_true_iff]
    constructor
    · rintro ⟨_, e⟩
      have e2 := congrArg (List.drop 60) e
      unfold sealN at e2
      rw [hpad, List.drop_left' hd] at e2
      exact e2
    · intro e
      refine ⟨h, ?_⟩
      unfold sealN
      rw [hpad, e, hl]
  rw [h1]
  have h2 : crcR 4294967295 l = crcTn 32 (crcR 4294967295 (l.take 60) ^^^ UInt32.ofNat (leN (l.drop 60))) := by
    have : crcR 4294967295 l = crcR (crcR 4294967295 (l.take 60)) (l.drop 60) := by rw [← crcR_append, hl]
    rw [this, ← crcL_bytes, crcL_closed _ _ (by rw [bitsOf_len]; omega), bitsOf_len, ht, bitsN_bytes]
  rw [h2]
  have hlt := leN_lt (l.drop 60)
  rw [ht] at hlt
  have hnx : ∀ x : UInt32, x ^^^ ~~~x = 4294967295 := by
    intro x
    apply UInt32.toBitVec_inj.1
    show x.toBitVec ^^^ ~~~x.toBitVec = BitVec.allOnes 32
    apply BitVec.eq_of_getLsbD_eq
    intro i hi
    rw [BitVec.getLsbD_xor, BitVec.getLsbD_not, BitVec.getLsbD_allOnes]
    simp [hi]
  constructor
  · intro e
    rw [← e, leN_four]
    unfold crcN
    rw [UInt32.ofNat_toNat, hnx]
  · intro e
    have e2 := crcTn_inj 32 e
    apply leN_inj _ _ (by rw [hfl, ht])
    rw [leN_four]
    have e3 : UInt32.ofNat (leN (l.drop 60)) = crcN (l.take 60) := by
      unfold crcN
      generalize crcR 4294967295 (l.take 60) = r at e2
      have := congrArg (r ^^^ ·) e2
      simp only [xor_self_cancel] at this
      rw [this, ← hnx r, xor_self_cancel]
    have e4 := congrArg UInt32.toNat e3
    rw [UInt32.toNat_ofNat', Nat.mod_eq_of_lt (by omega)] at e4
    exact e4.symm

/-! turned bits -/
theorem bitsOf_get : ∀ (l : List UInt8) (t : Nat), (bitsOf l)[t]? = (l[t / 8]?).map fun b => b.toNat.testBit (t % 8)
  | [], t => by simp [bitsOf]
  | b :: l, t => by
    show (bitsB b ++ bitsOf l)[t]? = _
    by_cases h : t < 8
    · rw [List.getElem?_append_left (by simpa [bitsB] using h), show t / 8 = 0 by omega, show t % 8 = t by omega]
      have : t = 0 ∨ t = 1 ∨ t = 2 ∨ t = 3 ∨ t = 4 ∨ t = 5 ∨ t = 6 ∨ t = 7 := by omega
      rcases this with rfl | rfl | rfl | rfl | rfl | rfl | rfl | rfl <;> rfl
    · rw [List.getElem?_append_right (by simp [bitsB]; omega), show (bitsB b).length = 8 from rfl, bitsOf_get l (t - 8), show t / 8 = (t - 8) / 8 + 1 by omega, show t % 8 = (t - 8) % 8 by omega]
      simp
theorem bits_flip (l : List UInt8) (t : Nat) (b : UInt8) (hb : l[t / 8]? = some b) : bitsOf (l.set (t / 8) (b ^^^ UInt8.ofNat (2 ^ (t % 8)))) = (bitsOf l).set t (!b.toNat.testBit (t % 8)) := by
  have hlt : t / 8 < l.length := (List.getElem?_eq_some_iff.1 hb).1
  apply List.ext_getElem?
  intro i
  rw [bitsOf_get, List.getElem?_set, List.getElem?_set, bitsOf_get, bitsOf_len]
  have hp : (UInt8.ofNat (2 ^ (t % 8))).toNat = 2 ^ (t % 8) := by
    rw [UInt8.toNat_ofNat', Nat.mod_eq_of_lt]
    have : 2 ^ (t % 8) ≤ 2 ^ 7 := Nat.pow_le_pow_right (by omega) (by omega)
    omega
  by_cases h1 : t / 8 = i / 8
  · rw [if_pos h1, if_pos hlt]
    simp only [Option.map_some, UInt8.toNat_xor, hp, Nat.testBit_xor, Nat.testBit_two_pow]
    by_cases h2 : t = i
    · subst h2; rw [if_pos rfl, if_pos (by omega)]; simp
    · rw [if_neg h2, ← h1, hb]
      have : ¬ t % 8 = i % 8 := by omega
      simp [this]
  · rw [if_neg h1, if_neg (by omega)]
/-- the bits of a number, the lowest first, laid from place k on: those below i -/
def errAt (pat : Nat) (k i : Nat) : List Bool := (List.range 512).map fun t => decide (k ≤ t ∧ t < k + i) && pat.testBit (t - k)
theorem errAt_len (pat k i : Nat) : (errAt pat k i).length = 512 := by simp [errAt]
theorem zip_get (a e : List Bool) (t : Nat) : (List.zipWith xor a e)[t]? = match a[t]?, e[t]? with | some x, some y => some (xor x y) | _, _ => none := by
  rw [List.getElem?_zipWith]
  cases a[t]? <;> cases e[t]? <;> rfl
theorem errAt_get (pat k i t : Nat) (h : t < 512) : (errAt pat k i)[t]? = some (decide (k ≤ t ∧ t < k + i) && pat.testBit (t - k)) := by simp [errAt, h]
theorem err_step1 (a : List Bool) (pat k i : Nat) (x : Bool) (ha : a.length = 512) (hki : k + i < 512) (hp : pat.testBit i = true) (hx : (List.zipWith xor a (errAt pat k i))[k + i]? = some x) :
    (List.zipWith xor a (errAt pat k i)).set (k + i) (!x) = List.zipWith xor a (errAt pat k (i + 1)) := by
  apply List.ext_getElem?
  intro t
  rw [List.getElem?_set]
  by_cases h : k + i = t
  · subst h
    rw [if_pos rfl, if_pos (by rw [List.length_zipWith, errAt_len, ha]; omega)]
    rw [zip_get, errAt_get _ _ _ _ hki] at hx
    rw [zip_get, errAt_get _ _ _ _ hki]
    obtain ⟨y, hy⟩ : ∃ y, a[k + i]? = some y := ⟨a[k + i]'(by omega), by simp⟩
    rw [hy] at hx ⊢
    simp only [Option.some.injEq] at hx ⊢
    rw [← hx]
    have e1 : decide (k ≤ k + i ∧ k + i < k + i) = false := decide_eq_false (by omega)
    have e2 : decide (k ≤ k + i ∧ k + i < k + (i + 1)) = true := decide_eq_true (by omega)
    rw [e1, e2, show k + i - k = i by omega, hp]
    cases y <;> rfl
  · rw [if_neg h, zip_get, zip_get]
    by_cases ht : t < 512
    · rw [errAt_get _ _ _ _ ht, errAt_get _ _ _ _ ht]
      have : decide (k ≤ t ∧ t < k + i) = decide (k ≤ t ∧ t < k + (i + 1)) := decide_eq_decide.2 (by omega)
      rw [this]
    · rw [List.getElem?_eq_none (by omega : a.length ≤ t)]
theorem err_step0 (pat k i : Nat) (hp : pat.testBit i = false) : errAt pat k i = errAt pat k (i + 1) := by
  unfold errAt
  apply List.map_congr_left
  intro t _
  by_cases h : t = k + i
  · subst h; rw [show k + i - k = i by omega, hp]; simp
  · have : decide (k ≤ t ∧ t < k + i) = decide (k ≤ t ∧ t < k + (i + 1)) := decide_eq_decide.2 (by omega)
    rw [this]
theorem errAt_form (pat k m : Nat) (h : k + m ≤ 512) : errAt pat k m = List.replicate k false ++ ((List.range m).map fun j => pat.testBit j) ++ List.replicate (512 - k - m) false := by
  apply List.ext_getElem?
  intro t
  by_cases ht : t < 512
  · rw [errAt_get _ _ _ _ ht]
    by_cases h1 : t < k
    · rw [List.getElem?_append_left (by simp; omega), List.getElem?_append_left (by simpa using h1), List.getElem?_replicate, if_pos h1]
      have : decide (k ≤ t ∧ t < k + m) = false := decide_eq_false (by omega)
      rw [this]; rfl
    · by_cases h2 : t < k + m
      · rw [List.getElem?_append_left (by simp; omega), List.getElem?_append_right (by simp; omega)]
        have : decide (k ≤ t ∧ t < k + m) = true := decide_eq_true (by omega)
        rw [this]
        simp only [List.length_replicate, List.getElem?_map, List.getElem?_range (show t - k < m by omega)]
        rfl
      · rw [List.getElem?_append_right (by simp; omega)]
        have : decide (k ≤ t ∧ t < k + m) = false := decide_eq_false (by omega)
        rw [this, List.getElem?_replicate, if_pos (by simp; omega)]; rfl
  · rw [List.getElem?_eq_none (by rw [errAt_len]; omega), List.getElem?_eq_none (by simp; omega)]
theorem crc_err (pat k m : Nat) (h : k + m ≤ 512) (hm : m ≤ 32) : crcL 0 (errAt pat k m) = 0 ↔ ∀ j < m, pat.testBit j = false := by
  rw [errAt_form pat k m h, crcL_append, crcL_append, crcL_false k 0, crcTn_zero, crcL_closed ((List.range m).map fun j => pat.testBit j) 0 (by simpa using hm), crcL_false (512 - k - m)]
  generalize hb : ((List.range m).map fun j => pat.testBit j) = bl
  have hbl : bl.length = m := by rw [← hb]; simp
  have hlt := bitsN_lt bl
  rw [hbl] at hlt
  have hp : 2 ^ m ≤ 2 ^ 32 := Nat.pow_le_pow_right (by omega) hm
  constructor
  · intro e
    have e1 : crcTn bl.length (0 ^^^ UInt32.ofNat (bitsN bl)) = 0 := crcTn_inj (512 - k - m) (e.trans (crcTn_zero _).symm)
    have e2 : (0 : UInt32) ^^^ UInt32.ofNat (bitsN bl) = 0 := crcTn_inj bl.length (e1.trans (crcTn_zero _).symm)
    have e3 := congrArg UInt32.toNat e2
    simp only [UInt32.zero_xor, UInt32.toNat_ofNat'] at e3
    rw [Nat.mod_eq_of_lt (by omega)] at e3
    have e4 := (bitsN_zero bl).1 e3
    intro j hj
    apply e4
    rw [← hb]
    exact List.mem_map.2 ⟨j, List.mem_range.2 hj, rfl⟩
  · intro hz
    have e4 : bitsN bl = 0 := (bitsN_zero bl).2 (by
      intro x hx
      rw [← hb] at hx
      obtain ⟨j, hj, rfl⟩ := List.mem_map.1 hx
      exact hz j (List.mem_range.1 hj))
    rw [e4]
    simp [crcTn_zero]
/-- a sealed sector, some bits of it turned, is sealed just if none is -/
theorem open_err (l l' : List UInt8) (pat k m : Nat) (h : k + m ≤ 512) (hm : m ≤ 32) (hl : l.length = 64) (hl' : l'.length = 64) (ho : openN l = true) (hb : bitsOf l' = List.zipWith xor (bitsOf l) (errAt pat k m)) :
    openN l' = true ↔ ∀ j < m, pat.testBit j = false := by
  rw [seal_iff l' hl', ← crc_err pat k m h hm, ← crcL_bytes, hb]
  have e := (seal_iff l hl).1 ho
  have hx : crcL (4294967295 ^^^ 0) (List.zipWith xor (bitsOf l) (errAt pat k m)) = crcL 4294967295 (bitsOf l) ^^^ crcL 0 (errAt pat k m) := crcL_xor _ _ _ _ (by rw [bitsOf_len, errAt_len, hl])
  rw [show (4294967295 : UInt32) ^^^ 0 = 4294967295 by decide, crcL_bytes, e] at hx
  rw [hx]
  constructor
  · intro hh
    have := congrArg (crcTn 32 4294967295 ^^^ ·) hh
    simp only [xor_self_cancel] at this
    simpa using this
  · intro hh; rw [hh]; simp
end Go.Sl

/- Packs whose sum is another one; keys that are unlike: plain laws. -/
namespace Go.Sl
theorem xor_cancel32 {x y z : UInt32} (h : x ^^^ z = y ^^^ z) : x = y := by
  have := congrArg (· ^^^ z) h
  simpa [UInt32.xor_assoc] using this
theorem crcT4_inj {x y : UInt32} (h : crcT4 x = crcT4 y) : x = y := crcT_inj (crcT_inj (crcT_inj (crcT_inj h)))
theorem crcB_inj {r r' : UInt32} {b b' : UInt8} (h : crcB r b = crcB r' b') : r ^^^ b.toUInt32 = r' ^^^ b'.toUInt32 := crcT4_inj (crcT4_inj h)
theorem crcR_inj : ∀ (q : List UInt8) {r r' : UInt32}, crcR r q = crcR r' q → r = r'
  | [], _, _, h => h
  | b :: q, r, r', h => by
    have := crcR_inj q (r := crcB r b) (r' := crcB r' b) h
    exact xor_cancel32 (crcB_inj this)
theorem crcN_turn {P Q : List UInt8} {b b' : UInt8} (h : crcN (P ++ b :: Q) = crcN (P ++ b' :: Q)) : b = b' := by
  unfold crcN at h
  have h1 : crcR 4294967295 (P ++ b :: Q) = crcR 4294967295 (P ++ b' :: Q) := by
    have := congrArg (fun x : UInt32 => ~~~x) h
    simpa using this
  rw [crcR_append, crcR_append] at h1
  have h2 := crcR_inj Q (r := crcB (crcR 4294967295 P) b) (r' := crcB (crcR 4294967295 P) b') h1
  have h3 := crcB_inj h2
  have h4 : b.toUInt32 = b'.toUInt32 := by
    rw [UInt32.xor_comm _ b.toUInt32, UInt32.xor_comm _ b'.toUInt32] at h3
    exact xor_cancel32 h3
  have h5 := congrArg UInt32.toNat h4
  simp only [UInt8.toNat_toUInt32] at h5
  exact UInt8.toNat_inj.1 h5
theorem insB_perm (a : ItV) : ∀ l, List.Perm (insB a l) (a :: l)
  | [] => List.Perm.refl _
  | b :: l => by
    rw [insB]
    split
    · exact ((insB_perm a l).cons b).trans (List.Perm.swap a b l)
    · exact List.Perm.refl _
theorem isort_perm : ∀ l, List.Perm (isort l) l
  | [] => List.Perm.refl _
  | a :: l => (insB_perm a _).trans ((isort_perm l).cons a)
theorem compL_apart : ∀ (p : ItV) (l : List ItV), ((p :: l).map (·.k)).Nodup → compL p l = l
  | _, [], _ => rfl
  | p, x :: l, h => by
    simp only [List.map_cons, List.nodup_cons, List.mem_cons, not_or] at h
    rw [compL, if_neg (fun e => h.1.1 e.symm), compL_apart x l (by simp only [List.map_cons, List.nodup_cons]; exact h.2)]
theorem comp_apart : ∀ (l : List ItV), (l.map (·.k)).Nodup → comp l = l
  | [], _ => rfl
  | p :: l, h => by rw [comp, compL_apart p l h]
theorem srtd_apart {xs : List SlV} (h : (xs.map fun x => keyO x.p).Nodup) : srtd xs = isort (xs.map itm) := by
  refine comp_apart _ ?_
  have hp := (isort_perm (xs.map itm)).map (·.k)
  refine hp.nodup_iff.2 ?_
  rw [List.map_map]
  exact h
end Go.Sl

/- Bytes in their order, and texts of keys: plain facts. -/
namespace Go.Sl

theorem bytesLess_self : ∀ l : List UInt8, Op.bytesLess l l = false
  | [] => rfl
  | x :: l => by simp [Op.bytesLess, bytesLess_self l]
theorem bytesLess_cons (x y : UInt8) (l m : List UInt8) : Op.bytesLess (x :: l) (y :: m) = if x = y then Op.bytesLess l m else decide (x < y) := by
  by_cases h : x = y
  · subst h; simp [Op.bytesLess]
  · simp [Op.bytesLess, h]
theorem bytesLess_step {l m : List UInt8} {i : Nat} (h1 : i < l.length) (h2 : i < m.length) :
    Op.bytesLess (l.drop i) (m.drop i) = if l.getD i 0 = m.getD i 0 then Op.bytesLess (l.drop (i + 1)) (m.drop (i + 1)) else decide (l.getD i 0 < m.getD i 0) := by
  rw [List.drop_eq_getElem_cons h1, List.drop_eq_getElem_cons h2, bytesLess_cons]
  simp [List.getD_eq_getElem?_getD, h1, h2]
theorem u8_lt_of_ne {x y : UInt8} (h : x ≠ y) : (y < x) ↔ ¬ (x < y) := by
  rw [UInt8.lt_iff_toNat_lt, UInt8.lt_iff_toNat_lt]
  have : x.toNat ≠ y.toNat := fun e => h (UInt8.toNat_inj.1 e)
  omega
theorem bytesLess_ne : ∀ (l m : List UInt8), l.length = m.length → l ≠ m → Op.bytesLess m l = !Op.bytesLess l m
  | [], [], _, h => absurd rfl h
  | [], _ :: _, h, _ => by simp at h
  | _ :: _, [], h, _ => by simp at h
  | x :: l, y :: m, hl, h => by
    rw [bytesLess_cons, bytesLess_cons]
    by_cases e : x = y
    · subst e
      rw [if_pos rfl, if_pos rfl]
      exact bytesLess_ne l m (by simpa using hl) (fun q => h (by rw [q]))
    · rw [if_neg e, if_neg (Ne.symm e)]
      have := u8_lt_of_ne e
      by_cases q : x < y <;> simp_all
theorem bytesLess_trans : ∀ (l m k : List UInt8), Op.bytesLess l m = true → Op.bytesLess m k = true → Op.bytesLess l k = true
  | l, [], k, h, _ => by cases l <;> simp [Op.bytesLess] at h
  | l, _ :: _, [], _, h => by simp [Op.bytesLess] at h
  | [], _ :: _, _ :: _, _, _ => rfl
  | x :: l, y :: m, z :: k, h1, h2 => by
    rw [bytesLess_cons] at h1 h2 ⊢
    by_cases e1 : x = y
    · subst e1
      rw [if_pos rfl] at h1
      by_cases e2 : x = z
      · subst e2
        rw [if_pos rfl] at h2 ⊢
        exact bytesLess_trans l m k h1 h2
      · rw [if_neg e2] at h2 ⊢; exact h2
    · rw [if_neg e1] at h1
      have h1' := of_decide_eq_true h1
      by_cases e2 : y = z
      · subst e2; rw [if_neg e1]; exact h1
      · rw [if_neg e2] at h2
        have h2' := of_decide_eq_true h2
        rw [UInt8.lt_iff_toNat_lt] at h1' h2'
        have hxz : x ≠ z := fun e => by subst e; omega
        rw [if_neg hxz]
        apply decide_eq_true
        rw [UInt8.lt_iff_toNat_lt]; omega
theorem hexD_lt : ∀ n < 16, ∀ m < 16, (hexD.getD n 0 < hexD.getD m 0 ↔ n < m) := by decide
theorem hexD_inj : ∀ n < 16, ∀ m < 16, (hexD.getD n 0 = hexD.getD m 0 ↔ n = m) := by decide
theorem hexOf_cons (x : UInt8) (l : List UInt8) : hexOf (x :: l) = hexD.getD (x.toNat / 16) 0 :: hexD.getD (x.toNat % 16) 0 :: hexOf l := rfl
theorem bytesLess_hex : ∀ (l m : List UInt8), l.length = m.length → Op.bytesLess (hexOf l) (hexOf m) = Op.bytesLess l m
  | [], [], _ => rfl
  | [], _ :: _, h => by simp at h
  | _ :: _, [], h => by simp at h
  | x :: l, y :: m, hl => by
    have hx := x.toNat_lt
    have hy := y.toNat_lt
    rw [hexOf_cons, hexOf_cons, bytesLess_cons, bytesLess_cons, bytesLess_cons, bytesLess_hex l m (by simpa using hl)]
    simp only [hexD_inj (x.toNat / 16) (by omega) (y.toNat / 16) (by omega), hexD_inj (x.toNat % 16) (by omega) (y.toNat % 16) (by omega), hexD_lt (x.toNat / 16) (by omega) (y.toNat / 16) (by omega), hexD_lt (x.toNat % 16) (by omega) (y.toNat % 16) (by omega)]
    have e : x = y ↔ x.toNat / 16 = y.toNat / 16 ∧ x.toNat % 16 = y.toNat % 16 := by
      constructor
      · rintro rfl; exact ⟨rfl, rfl⟩
      · rintro ⟨h1, h2⟩; exact UInt8.toNat_inj.1 (by omega)
    by_cases h1 : x.toNat / 16 = y.toNat / 16
    · by_cases h2 : x.toNat % 16 = y.toNat % 16
      · rw [if_pos h1, if_pos h2, if_pos (e.2 ⟨h1, h2⟩)]
      · rw [if_pos h1, if_neg h2, if_neg (fun q => h2 (e.1 q).2)]
        rw [decide_eq_decide, UInt8.lt_iff_toNat_lt]; omega
    · rw [if_neg h1, if_neg (fun q => h1 (e.1 q).1)]
      rw [decide_eq_decide, UInt8.lt_iff_toNat_lt]; omega
/-- a text of digits is read as what it tells -/
theorem nib_hexD : ∀ n < 16, nib (hexD.getD n 0) = UInt8.ofNat n := by decide
theorem unhex_hexOf : ∀ l : List UInt8, unhex (hexOf l) = l
  | [] => rfl
  | x :: l => by
    have hx := x.toNat_lt
    rw [hexOf_cons, unhex, unhex_hexOf l, nib_hexD _ (by omega), nib_hexD _ (by omega)]
    congr 1
    apply UInt8.toNat_inj.1
    rw [UInt8.toNat_or, UInt8.toNat_ofNat', UInt8.toNat_ofNat', UInt8.toNat_ofNat', Nat.mod_eq_of_lt (by omega : x.toNat / 16 < 2 ^ 8), Nat.mod_eq_of_lt (by omega : x.toNat % 16 < 2 ^ 8), Nat.mod_eq_of_lt (by omega),
      show x.toNat / 16 * 16 = 2 ^ 4 * (x.toNat / 16) by omega, ← Nat.two_pow_add_eq_or_of_lt (by omega)]
    omega
theorem hexD_nib_ok : ∀ n < 16, decide (nib (hexD.getD n 0) ≤ 15) = true := by decide
theorem hexOk_hexOf (l : List UInt8) (h : l.length = 32) : hexOk (hexOf l) = true := by
  rw [hexOk, hexOf_len, h]
  simp only [Nat.reduceMul, BEq.rfl, Bool.true_and, List.all_eq_true]
  intro c hc
  simp only [hexOf, List.mem_flatMap] at hc
  obtain ⟨b, _, hb⟩ := hc
  have hx := b.toNat_lt
  simp only [List.mem_cons, List.not_mem_nil, or_false] at hb
  rcases hb with rfl | rfl
  · exact hexD_nib_ok _ (by omega)
  · exact hexD_nib_ok _ (by omega)
theorem hexOf_get (x : UInt8) : ∀ (l : List UInt8) (i : Nat), l[i]? = some x → (hexOf l).getD (2 * i) 0 = hexD.getD (x.toNat / 16) 0 ∧ (hexOf l).getD (2 * i + 1) 0 = hexD.getD (x.toNat % 16) 0
  | [], i, h => by simp at h
  | y :: l, 0, h => by simp at h; subst h; exact ⟨rfl, rfl⟩
  | y :: l, i + 1, h => by
    have ⟨h1, h2⟩ := hexOf_get x l i (by simpa using h)
    rw [hexOf_cons, show 2 * (i + 1) = 2 * i + 1 + 1 by omega]
    simpa using ⟨h1, h2⟩
/-- and back: of texts that are right -/
theorem hexD_nib : ∀ c : UInt8, nib c ≤ 15 → hexD.getD (nib c).toNat 0 = c := by
  have h : ∀ c : Fin 256, nib (UInt8.ofNat c.val) ≤ 15 → hexD.getD (nib (UInt8.ofNat c.val)).toNat 0 = UInt8.ofNat c.val := by decide +kernel
  intro c
  have := h ⟨c.toNat, c.toNat_lt⟩
  simpa using this
theorem hexOf_unhex : ∀ (n : Nat) (s : List UInt8), s.length = 2 * n → (∀ c ∈ s, nib c ≤ 15) → hexOf (unhex s) = s
  | 0, s, h, _ => by
    have : s = [] := List.eq_nil_of_length_eq_zero (by omega)
    subst this; rfl
  | n + 1, [], h, _ => by simp at h
  | n + 1, [a], h, _ => by simp at h; omega
  | n + 1, a :: b :: l, h, hc => by
    have ha := hc a (by simp)
    have hb := hc b (by simp)
    have ha2 := ha
    have hb2 := hb
    rw [UInt8.le_iff_toNat_le] at ha2 hb2
    have e15 : (15 : UInt8).toNat = 15 := rfl
    rw [e15] at ha2 hb2
    have e : (UInt8.ofNat ((nib a).toNat * 16) ||| nib b).toNat = (nib a).toNat * 16 + (nib b).toNat := by
      rw [UInt8.toNat_or, UInt8.toNat_ofNat', Nat.mod_eq_of_lt (by omega), show (nib a).toNat * 16 = 2 ^ 4 * (nib a).toNat by omega, ← Nat.two_pow_add_eq_or_of_lt (by omega)]
    rw [unhex, hexOf_cons, e, hexOf_unhex n l (by simp only [List.length_cons] at h; omega) (fun c hc' => hc c (by simp [hc'])), show ((nib a).toNat * 16 + (nib b).toNat) / 16 = (nib a).toNat by omega, show ((nib a).toNat * 16 + (nib b).toNat) % 16 = (nib b).toNat by omega, hexD_nib a ha, hexD_nib b hb]
theorem nib_ok : ∀ c : UInt8, decide (nib c ≤ 15) = (decide (48 ≤ c) && decide (c ≤ 57) || decide (97 ≤ c) && decide (c ≤ 102)) := by
  have h : ∀ c : Fin 256, decide (nib (UInt8.ofNat c.val) ≤ 15) = (decide (48 ≤ UInt8.ofNat c.val) && decide (UInt8.ofNat c.val ≤ 57) || decide (97 ≤ UInt8.ofNat c.val) && decide (UInt8.ofNat c.val ≤ 102)) := by decide +kernel
  intro c
  have := h ⟨c.toNat, c.toNat_lt⟩
  simpa using this
end Go.Sl

/- The keys of seventy objects of two bytes are unlike: their first four bytes, reckoned once each. -/
namespace Go.Sl
def two (i : Nat) : List UInt8 := [1, UInt8.ofNat i]
def head4 (i : Nat) : List UInt8 := (sha (two i)).take 4
def heads0 : List (List UInt8) := [[71, 220, 84, 12], [157, 207, 151, 161], [161, 40, 113, 254], [199, 155, 147, 46], [168, 213, 221, 99]]
theorem heads0_are : [0, 1, 2, 3, 4].map head4 = heads0 := by decide +kernel
def heads1 : List (List UInt8) := [[188, 89, 89, 244], [68, 96, 42, 153], [202, 108, 101, 136], [158, 98, 130, 228], [172, 158, 97, 213]]
theorem heads1_are : [5, 6, 7, 8, 9].map head4 = heads1 := by decide +kernel
def heads2 : List (List UInt8) := [[192, 75, 91, 177], [87, 191, 209, 203], [107, 109, 170, 131], [199, 184, 156, 251], [101, 59, 59, 179]]
theorem heads2_are : [10, 11, 12, 13, 14].map head4 = heads2 := by decide +kernel
def heads3 : List (List UInt8) := [[36, 37, 94, 245], [175, 52, 10, 165], [38, 231, 249, 140], [17, 91, 73, 140], [216, 197, 13, 98]]
theorem heads3_are : [15, 16, 17, 18, 19].map head4 = heads3 := by decide +kernel
def heads4 : List (List UInt8) := [[219, 231, 38, 232], [118, 76, 138, 53], [220, 227, 127, 53], [88, 9, 173, 220], [181, 25, 190, 135]]
theorem heads4_are : [20, 21, 22, 23, 24].map head4 = heads4 := by decide +kernel
def heads5 : List (List UInt8) := [[174, 88, 183, 224], [41, 134, 17, 61], [20, 91, 251, 131], [56, 125, 169, 60], [175, 44, 111, 21]]
theorem heads5_are : [25, 26, 27, 28, 29].map head4 = heads5 := by decide +kernel
def heads6 : List (List UInt8) := [[93, 247, 80, 75], [93, 154, 233, 128], [49, 69, 231, 169], [200, 70, 248, 124], [183, 6, 84, 254]]
theorem heads6_are : [30, 31, 32, 33, 34].map head4 = heads6 := by decide +kernel
def heads7 : List (List UInt8) := [[183, 29, 232, 7], [63, 45, 42, 136], [93, 229, 140, 245], [97, 228, 67, 30], [190, 62, 234, 154]]
theorem heads7_are : [35, 36, 37, 38, 39].map head4 = heads7 := by decide +kernel
def heads8 : List (List UInt8) := [[28, 151, 35, 152], [11, 37, 184, 64], [18, 160, 246, 92], [98, 165, 235, 209], [8, 3, 126, 121]]
theorem heads8_are : [40, 41, 42, 43, 44].map head4 = heads8 := by decide +kernel
def heads9 : List (List UInt8) := [[28, 18, 61, 92], [85, 152, 179, 243], [41, 239, 113, 86], [68, 200, 8, 253], [241, 107, 166, 250]]
theorem heads9_are : [45, 46, 47, 48, 49].map head4 = heads9 := by decide +kernel
def heads10 : List (List UInt8) := [[127, 119, 75, 180], [78, 251, 151, 231], [144, 87, 248, 158], [179, 138, 27, 156], [23, 51, 59, 21]]
theorem heads10_are : [50, 51, 52, 53, 54].map head4 = heads10 := by decide +kernel
def heads11 : List (List UInt8) := [[6, 246, 71, 177], [162, 9, 20, 252], [85, 68, 222, 41], [99, 222, 208, 18], [210, 11, 112, 35]]
theorem heads11_are : [55, 56, 57, 58, 59].map head4 = heads11 := by decide +kernel
def heads12 : List (List UInt8) := [[204, 204, 54, 156], [117, 32, 106, 123], [54, 117, 251, 89], [179, 23, 219, 237], [221, 30, 40, 38]]
theorem heads12_are : [60, 61, 62, 63, 64].map head4 = heads12 := by decide +kernel
def heads13 : List (List UInt8) := [[172, 250, 107, 14], [171, 174, 139, 195], [168, 151, 162, 196], [247, 169, 229, 239], [18, 25, 195, 134]]
theorem heads13_are : [65, 66, 67, 68, 69].map head4 = heads13 := by decide +kernel
theorem heads_are : (List.range 70).map head4 = heads0 ++ heads1 ++ heads2 ++ heads3 ++ heads4 ++ heads5 ++ heads6 ++ heads7 ++ heads8 ++ heads9 ++ heads10 ++ heads11 ++ heads12 ++ heads13 := by
  rw [← heads0_are, ← heads1_are, ← heads2_are, ← heads3_are, ← heads4_are, ← heads5_are, ← heads6_are, ← heads7_are, ← heads8_are, ← heads9_are, ← heads10_are, ← heads11_are, ← heads12_are, ← heads13_are]
  have e : List.range 70 = [0, 1, 2, 3, 4] ++ [5, 6, 7, 8, 9] ++ [10, 11, 12, 13, 14] ++ [15, 16, 17, 18, 19] ++ [20, 21, 22, 23, 24] ++ [25, 26, 27, 28, 29] ++ [30, 31, 32, 33, 34] ++ [35, 36, 37, 38, 39] ++ [40, 41, 42, 43, 44] ++ [45, 46, 47, 48, 49] ++ [50, 51, 52, 53, 54] ++ [55, 56, 57, 58, 59] ++ [60, 61, 62, 63, 64] ++ [65, 66, 67, 68, 69] := by decide +kernel
  rw [e]
  simp only [List.map_append]
theorem heads_apart : ((List.range 70).map head4).Nodup := by
  rw [heads_are]
  decide +kernel
theorem keys_apart : ((List.range 70).map fun i => keyO (two i)).Nodup := by
  have h := heads_apart
  rw [show head4 = (fun k : Key => k.val.take 4) ∘ (fun i => keyO (two i)) from rfl, ← List.map_map] at h
  exact List.Pairwise.of_map (fun k : Key => k.val.take 4) (fun a b q e => q (by rw [e])) h
end Go.Sl

