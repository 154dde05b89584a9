/- What PackReads rests on, part 5 of 5: the small library for walks, contracts of functions, plain laws. No statement is proved here. -/
import Derived.Test.YtfhlbfalgdipiaaDoorPackReadsZ4
set_option linter.unusedVariables false
set_option linter.unusedSimpArgs false
set_option maxRecDepth 10000
set_option maxHeartbeats 2000000
/- Packs: read. -/
namespace Go.Sl
def tailP : Option (List UInt8) → Nat → List (List UInt8) → List UInt8
  | _, _, [] => []
  | prev, ch, p :: l =>
    if prev.isSome = true ∧ ch < 4 ∧ (deltaN (prev.getD []) p).length < p.length then numN (2 * (deltaN (prev.getD []) p).length + 1) ++ (deltaN (prev.getD []) p ++ tailP (some p) (ch + 1) l)
    else numN (2 * p.length) ++ (p ++ tailP (some p) 0 l)
def OkP (p : List UInt8) : Prop := 0 < p.length ∧ p.length ≤ 900
theorem encG_some : ∀ (l : List (List UInt8)) (prev : Option (List UInt8)) (ch : Nat) (acc : List UInt8), (∀ p ∈ l, OkP p) → encG prev ch acc l = some (acc ++ tailP prev ch l)
  | [], _, _, acc, _ => by simp [encG, tailP]
  | p :: l, prev, ch, acc, h => by
    have hp := h p (by simp)
    have ih := fun prev ch acc => encG_some l prev ch acc (fun q hq => h q (by simp [hq]))
    rw [encG, tailP, if_neg (by unfold OkP at hp; omega)]
    split
    · rw [ih]; simp
    · rw [ih]; simp
theorem encG_ok : ∀ (l : List (List UInt8)) (prev : Option (List UInt8)) (ch : Nat) (acc b : List UInt8), encG prev ch acc l = some b → ∀ p ∈ l, OkP p
  | [], _, _, _, _, _ => fun p hp => by simp at hp
  | p :: l, prev, ch, acc, b, h => by
    rw [encG] at h
    split at h
    · cases h
    · rename_i hp
      intro q hq
      rcases List.mem_cons.1 hq with rfl | hq
      · unfold OkP; omega
      · split at h
        · exact encG_ok l _ _ _ _ h q hq
        · exact encG_ok l _ _ _ _ h q hq
theorem getN_le : ∀ (l : List UInt8) (i u : Nat) (most : Int), 0 ≤ (getN l i u most).1 ∧ (getN l i u most).1 ≤ max most 0
  | [], _, _, _ => by simp [getN]; omega
  | b :: r, i, u, most => by
    rw [getN]
    split
    · exact ⟨Int.le_refl _, by show (0 : Int) ≤ _; omega⟩
    · split
      · exact getN_le r _ _ _
      · split
        · exact ⟨Int.le_refl _, by show (0 : Int) ≤ _; omega⟩
        · exact ⟨by show (0 : Int) ≤ ((_ : Nat) : Int); omega, by show ((_ : Nat) : Int) ≤ _; omega⟩
theorem eyeNum_le (st : Int × List UInt8) (most : Int) : 0 ≤ (eyeNum st most).1 ∧ (eyeNum st most).1 ≤ max most 0 := by
  unfold eyeNum
  split
  · exact getN_le _ _ _ _
  · exact ⟨Int.le_refl _, by show (0 : Int) ≤ _; omega⟩
theorem eyeRaw_len2 (st : Int × List UInt8) (n : Int) : (eyeRaw st n).1.length ≤ st.2.length ∧ (eyeRaw st n).2.2.length ≤ st.2.length := by
  unfold eyeRaw
  split
  · simp
  · split
    · simp
    · simp; omega
def BytI (xs : List SlV) : HItem := ⟨fun h => ∀ x ∈ xs, RDh 1 x.v x.p.length (bs x.p) h, fun _ _ hl hh x hx => (hh x hx).mono hl⟩
theorem satBytNil {s w : World} {L : List HItem} (h : Sat s w L) : Sat s w (BytI [] :: L) :=
  ⟨h.1, h.2.1, h.2.2.1, fun _ => false, (fun x hx => absurd hx (by simp)), sepL_mono L (fun b o hb => by simpa [restr] using hb) h.2.2.2⟩
theorem satBytMore {s w : World} {L : List HItem} {xs : List SlV} {x : SlV} (h : Sat s w (BytI xs :: OwnB x.v x.p :: L)) : Sat s w (BytI (xs ++ [x]) :: L) := by
  have h2 : Sat s w (Sep [BytI xs, OwnB x.v x.p] :: L) := Sat.sep (M := [BytI xs, OwnB x.v x.p]) h
  refine h2.map 0 (J := BytI (xs ++ [x])) rfl (fun hh hp => ?_)
  obtain ⟨D, h3, D2, h4, _⟩ := hp
  intro y hy
  rcases List.mem_append.1 hy with hy | hy
  · exact (h3 y hy).mono restr_le
  · simp at hy; subst hy
    exact ((Own.reads h4).mono restr_le).mono restr_le
theorem BytI.view {L : List HItem} {xs : List SlV} (j : Nat) (hj : L[j]? = some (BytI xs)) : ∀ x ∈ xs, ViewsB L x.v x.p := fun x hx => Views.of_mem j hj (fun h hp => hp x hx)
def RdR (st : Int × List UInt8) (e : Int) (xs : List SlV) : Prop :=
  ((e = 7 ∧ xs = []) ∨ e = 0) ∧ xs.length ≤ 64 ∧ (∀ x ∈ xs, x.p.length ≤ st.2.length + 900) ∧ ∀ all : List (List UInt8), (∀ p ∈ all, OkP p) → all.length ≤ 64 → st = (0, numN all.length ++ tailP none 0 all) → e = 0 ∧ xs.map SlV.p = all
/-- what a step reads of what Encode wrote -/
theorem read_step {all : List (List UInt8)} {i ch : Nat} {p : List UInt8} (hok : ∀ p ∈ all, OkP p) (hp : all[i]? = some p) {st : Int × List UInt8} (hst : st = (0, tailP (prevP all i) ch (all.drop i))) :
    ∃ (m : Nat) (q : List UInt8) (ch' : Nat), eyeNum st 1801 = ((m : Int), (0, q ++ tailP (prevP all (i + 1)) ch' (all.drop (i + 1)))) ∧ q.length = m / 2 ∧ ((m % 2 = 0 ∧ q = p) ∨ (m % 2 = 1 ∧ 0 < i ∧ ∃ b, all[i - 1]? = some b ∧ q = deltaN b p)) := by
  obtain ⟨hlt, e⟩ := List.getElem?_eq_some_iff.1 hp
  have dp : all.drop i = p :: all.drop (i + 1) := by rw [List.drop_eq_getElem_cons hlt, e]
  have ho := hok p (List.mem_of_getElem? hp)
  unfold OkP at ho
  have hn : prevP all (i + 1) = some p := by rw [prevP, if_neg (by omega), Nat.add_sub_cancel, hp]
  rw [dp, tailP] at hst
  rw [hn]
  split at hst
  · rename_i hc
    obtain ⟨b, hb⟩ := Option.isSome_iff_exists.1 hc.1
    rw [hb] at hst hc
    simp only [Option.getD_some] at hst hc
    have h0 : 0 < i := by
      rcases Nat.eq_zero_or_pos i with e | e
      · rw [e] at hb; simp [prevP] at hb
      · exact e
    rw [prevP, if_neg (by omega)] at hb
    refine ⟨2 * (deltaN b p).length + 1, deltaN b p, ch + 1, ?_, by omega, .inr ⟨by omega, h0, b, hb, rfl⟩⟩
    rw [hst, eyeNum_numN _ _ _ (by omega), if_neg (by omega)]
  · refine ⟨2 * p.length, p, 0, ?_, by omega, .inl ⟨by omega, rfl⟩⟩
    rw [hst, eyeNum_numN _ _ _ (by omega), if_neg (by omega)]
end Go.Sl
namespace Go.Proofs.K
open Go.Sl
attribute [local irreducible] Go.Sl.Own Go.Sl.Blk Go.Sl.Sep Go.Sl.Ex Go.Sl.Fact
theorem pack_read (s w : World) (b : Nat) (st0 : Int × List UInt8) (F : List HItem) (hl : st0.2.length ≤ 90000) (hs : Sat s w (EyeI b st0 :: F)) :
    Calls P n_pack_read #[bp b] w (Ret s (fun z : Value × Int × List SlV => .tuple #[z.1, .int .i64 z.2.1]) (fun z => OwnM 1 cellsS z.1 z.2.2 :: BytI z.2.2 :: F) (fun z => RdR st0 z.2.1 z.2.2)) := by
  refine enter K.fn_pack_read rfl K.nt_pack_read rfl hs ?_
  clear hs w; intro a w h
  refine c_seq (c_region ?_)
  refine wv h (r_assign h rfl) rfl ?_
  clear h a w; intro a w h
  refine wv h (r_assign h rfl) rfl ?_
  clear h a w; intro a w h
  refine wnil (c_then ?_)
  refine c_seq (c_region ?_)
  refine wv h (r_assign h rfl) rfl ?_
  clear h a w; intro a w h
  refine wnil (c_then ?_)
  refine c_meet h (X := Value × List SlV × (Int × List UInt8)) (fun z => [(0, bp b), (4, z.1)]) (fun z => OwnM 1 cellsS z.1 z.2.1 :: BytI z.2.1 :: EyeI b z.2.2 :: F)
    (fun z => z.2.1.length ≤ 64 ∧ (∀ x ∈ z.2.1, x.p.length ≤ st0.2.length + 900) ∧ ∀ all : List (List UInt8), (∀ p ∈ all, OkP p) → all.length ≤ 64 → st0 = (0, numN all.length ++ tailP none 0 all) → z.2.1.map SlV.p = all ∧ z.2.2 = (0, [])) ?_ ?_
  ·
   refine c_seq (c_region ?_)
   refine wv h (r_move h rfl) rfl ?_
   clear h a w; intro a w h
   refine wl rfl (op_call h rfl K.go_digit_Eye_Num (eye_Num s _ b st0 64 _ 0 rfl (by decide) (by decide) (by omega) h.2) rfl ?_)
   clear h a w; intro z11 a w hz11 h
   (simp only [List.set_cons_zero, List.set_cons_succ] at h)
   obtain ⟨N, hN⟩ : ∃ N, N = (eyeNum st0 64).1.toNat := ⟨_, rfl⟩
   obtain ⟨hn1, hn2⟩ := eyeNum_le st0 64
   have hN64 : N ≤ 64 := by omega
   rw [show (eyeNum st0 64).1 = (N : Int) by omega] at h
   have hl1 := eyeNum_len st0 64
   obtain ⟨st1, hst1⟩ : ∃ st, st = (eyeNum st0 64).2 := ⟨_, rfl⟩
   rw [← hst1] at h hl1
   have hgh : ∀ all : List (List UInt8), (∀ p ∈ all, OkP p) → all.length ≤ 64 → st0 = (0, numN all.length ++ tailP none 0 all) → N = all.length ∧ st1 = (0, tailP none 0 all) := by
     intro all h1 h2 h3
     have e := eyeNum_numN all.length (tailP none 0 all) 64 (by omega)
     rw [if_neg (by omega), ← h3] at e
     rw [hN, hst1, e]
     exact ⟨by simp, rfl⟩
   refine wv h (r_move h rfl) rfl ?_
   clear h a w; intro a w h
   refine wnil (c_then ?_)
   refine c_block ?_
   replace h : St _ _ _ _ _ (EyeI b st1 :: OwnM 1 cellsS (.slice none 0 0) [] :: BytI [] :: F) := ⟨h.1, by
     have q := (St.addNilM (size := 1) (cells := cellsS) ⟨h.1, satBytNil h.2⟩).2
     replace q := q.front 2 rfl
     exact q⟩
   refine c_loop (X := Nat × Value × List SlV × (Int × List UInt8)) (fun z => [(0, bp b), (4, z.2.1), (11, .int .i64 (N : Int)), (12, .int .i64 (z.1 : Int))]) (fun z => EyeI b z.2.2.2 :: OwnM 1 cellsS z.2.1 z.2.2.1 :: BytI z.2.2.1 :: F)
     (fun z => z.2.2.1.length = z.1 ∧ z.1 ≤ N ∧ z.2.2.2.2.length ≤ st0.2.length ∧ (∀ x ∈ z.2.2.1, x.p.length ≤ st0.2.length + 900) ∧ ∀ all : List (List UInt8), (∀ p ∈ all, OkP p) → all.length ≤ 64 → st0 = (0, numN all.length ++ tailP none 0 all) → z.2.2.1.map SlV.p = all.take z.1 ∧ ∃ ch, z.2.2.2 = (0, tailP (prevP all z.1) ch (all.drop z.1))) (fun z => N - z.1) (0, .slice none 0 0, [], st1) (h.keep [0, 4, 11, 12])
     ⟨rfl, Nat.zero_le _, hl1, fun x hx => absurd hx (by simp), fun all h1 h2 h3 => ⟨rfl, 0, (hgh all h1 h2 h3).2⟩⟩ ?_
   clear h a w; intro z a w hz h
   obtain ⟨i, v4, xs, st⟩ := z
   obtain ⟨z1, z2, z3, z4, z5⟩ := hz
   simp only at z1 z2 z3 z4 z5 h
   as_aux_lemma =>
    refine c_seq (c_region ?_)
    refine wv h (r_bin h rfl rfl (B.lss_int)) rfl ?_
    clear h a w; intro a w h
    refine wnil (c_then ?_)
    refine c_seq ?_
    refine c_condP (p := i < N) h rfl (by simp) (fun ht1 => ?_) (fun ht1 => ?_)
    ·
     refine c_skip ?_
     refine c_then ?_
     refine c_seq ?_
     refine c_block ?_
     refine c_seq (c_region ?_)
     refine wv h (r_move h rfl) rfl ?_
     clear h a w; intro a w h
     refine wv h (r_assign h rfl) rfl ?_
     clear h a w; intro a w h
     refine wnil (c_then ?_)
     refine c_seq (c_region ?_)
     refine wv h (r_move h rfl) rfl ?_
     clear h a w; intro a w h
     refine wl rfl (op_call h rfl K.go_digit_Eye_Num (eye_Num s _ b st 1801 _ 0 rfl (by decide) (by decide) (by omega) h.2) rfl ?_)
     clear h a w; intro z16 a w hz16 h
     (simp only [List.set_cons_zero, List.set_cons_succ] at h)
     obtain ⟨nn, hnn⟩ : ∃ n, n = (eyeNum st 1801).1.toNat := ⟨_, rfl⟩
     obtain ⟨hm1, hm2⟩ := eyeNum_le st 1801
     rw [show (eyeNum st 1801).1 = (nn : Int) by omega] at h
     have hl2 := eyeNum_len st 1801
     obtain ⟨st2, hst2⟩ : ∃ q, q = (eyeNum st 1801).2 := ⟨_, rfl⟩
     rw [← hst2] at h hl2
     refine wv h (r_assign h rfl) rfl ?_
     clear h a w; intro a w h
     refine wnil (c_then ?_)
     refine c_seq (c_region ?_)
     refine wv h (r_move h rfl) rfl ?_
     clear h a w; intro a w h
     refine wv h (r_move h rfl) rfl ?_
     clear h a w; intro a w h
     refine wv h (r_bin h rfl rfl (B.quo_i64 (by omega) (by omega) (by omega))) rfl ?_
     clear h a w; intro a w h
     rw [show ((nn : Int) / 2) = ((nn / 2 : Nat) : Int) by omega] at h
     refine wl rfl (op_call h rfl K.go_digit_Eye_Raw (eye_Raw s _ b st2 ((nn / 2 : Nat) : Int) _ 0 rfl (by omega) h.2) rfl ?_)
     clear h a w; intro v20 a w hz20 h
     (simp only [List.set_cons_zero, List.set_cons_succ] at h)
     obtain ⟨hr1, hr2⟩ := eyeRaw_len2 st2 ((nn / 2 : Nat) : Int)
     obtain ⟨q, hq⟩ : ∃ q, q = (eyeRaw st2 ((nn / 2 : Nat) : Int)).1 := ⟨_, rfl⟩
     obtain ⟨st3, hst3⟩ : ∃ q, q = (eyeRaw st2 ((nn / 2 : Nat) : Int)).2 := ⟨_, rfl⟩
     rw [← hq, ← hst3] at h
     rw [← hq] at hr1
     rw [← hst3] at hr2
     have gq : ∀ all : List (List UInt8), (∀ p ∈ all, OkP p) → all.length ≤ 64 → st0 = (0, numN all.length ++ tailP none 0 all) → ∃ p ch', all[i]? = some p ∧ p.length ≤ 900 ∧ st3 = (0, tailP (prevP all (i + 1)) ch' (all.drop (i + 1))) ∧ ((nn % 2 = 0 ∧ q = p) ∨ (nn % 2 = 1 ∧ 0 < i ∧ ∃ b, all[i - 1]? = some b ∧ q = deltaN b p)) := by
       intro all h1 h2 h3
       have hNa := (hgh all h1 h2 h3).1
       obtain ⟨_, ch, hst⟩ := z5 all h1 h2 h3
       obtain ⟨p, hp⟩ : ∃ p, all[i]? = some p := ⟨_, List.getElem?_eq_getElem (by omega)⟩
       obtain ⟨m, q', ch', e1, e2, e3⟩ := read_step h1 hp hst
       have e4 : nn = m := by rw [hnn, e1]; simp
       have e5 : st2 = (0, q' ++ tailP (prevP all (i + 1)) ch' (all.drop (i + 1))) := by rw [hst2, e1]
       have e6 := eyeRaw_enc q' (tailP (prevP all (i + 1)) ch' (all.drop (i + 1))) ((nn / 2 : Nat) : Int) (by omega)
       rw [← e5] at e6
       have e7 : q = q' := by rw [hq, e6]
       have e8 : st3 = (0, tailP (prevP all (i + 1)) ch' (all.drop (i + 1))) := by rw [hst3, e6]
       refine ⟨p, ch', hp, (h1 p (List.mem_of_getElem? hp)).2, e8, ?_⟩
       rw [e4, e7]; exact e3
     refine wv h (r_assign h rfl) rfl ?_
     clear h a w; intro a w h
     refine wnil (c_then ?_)
     refine c_meet h (X := Value × List UInt8) (fun z => [(0, bp b), (4, v4), (7, z.1), (11, .int .i64 (N : Int)), (12, .int .i64 (i : Int))]) (fun z => OwnB z.1 z.2 :: EyeI b st3 :: OwnM 1 cellsS v4 xs :: BytI xs :: F)
       (fun z => z.2.length ≤ st0.2.length + 900 ∧ ∀ all : List (List UInt8), (∀ p ∈ all, OkP p) → all.length ≤ 64 → st0 = (0, numN all.length ++ tailP none 0 all) → all[i]? = some z.2) ?_ ?_
     ·
      refine c_seq (c_region ?_)
      refine wv h (r_move h rfl) rfl ?_
      clear h a w; intro a w h
      refine wv h (r_bin h rfl rfl (B.rem_i64 (by omega) (by omega))) rfl ?_
      clear h a w; intro a w h
      refine wv h (r_bin h rfl rfl (B.eql_int)) rfl ?_
      clear h a w; intro a w h
      refine wv h (r_move h rfl) rfl ?_
      clear h a w; intro a w h
      refine wvG h (by exact .t rfl) (fun hg => by (have hg2 := hg; (simp only [Bool.and_eq_true, Bool.or_eq_true, Bool.not_eq_true', decide_eq_true_eq, decide_eq_false_iff_not] at hg2)); exact r_move h rfl) rfl ?_
      clear h a w; intro a w h
      refine wvG h (by exact .t rfl) (fun hg => by (simp only [↓gval_on hg, ↓gval_and hg] at h); (have hg2 := hg; (simp only [Bool.and_eq_true, Bool.or_eq_true, Bool.not_eq_true', decide_eq_true_eq, decide_eq_false_iff_not] at hg2)); exact r_bin h rfl rfl (B.gtr_int)) rfl ?_
      clear h a w; intro a w h
      refine wv h (r_pickA h rfl rfl rfl) rfl ?_
      clear h a w; intro a w h
      refine wnil (c_then ?_)
      refine c_condP (p := nn % 2 = 1 ∧ 0 < i) h rfl (by simp only [Bool.and_eq_true, decide_eq_true_eq]; omega) (fun ht2 => ?_) (fun ht2 => ?_)
      ·
       obtain ⟨x0, hx0⟩ : ∃ x, xs[i - 1]? = some x := ⟨_, List.getElem?_eq_getElem (by omega)⟩
       have hx0m := List.mem_of_getElem? hx0
       have hx0l := z4 x0 hx0m
       have hxc : (xs.flatMap cellsS)[(i - 1) * 1]? = some x0.v := by rw [flatS, Nat.mul_one, List.getElem?_map, hx0]; rfl
       as_aux_lemma =>
        refine c_seq (c_region ?_)
        refine wv h (r_move h rfl) rfl ?_
        clear h a w; intro a w h
        refine wv h (r_move h rfl) rfl ?_
        clear h a w; intro a w h
        refine wv h (r_bin h rfl rfl (B.sub_i64 (by omega) (by omega))) rfl ?_
        clear h a w; intro a w h
        refine wv h (r_elPv h rfl rfl K.u_S_S_uint8 K.sz_S_uint8 (Views.own 2 rfl) (i - 1) (by omega) (by omega)) rfl ?_
        clear h a w; intro a w h
        refine wv h (r_elG h rfl K.u_S_uint8 rfl (Views.own 2 rfl) hxc) rfl ?_
        clear h a w; intro a w h
        refine wv h (r_move h rfl) rfl ?_
        clear h a w; intro a w h
        refine wl rfl (op_call h rfl K.go_delta_Apply (delta_Apply s _ x0.v v20 x0.p q _ (BytI.view 3 rfl x0 hx0m) (Views.own 0 rfl) (by omega) (by omega) h.2) rfl ?_)
        clear h a w; intro z35 a w hap h
        obtain ⟨v35, e35, out⟩ := z35
        simp only at hap h
        obtain ⟨ha1, ha2⟩ := hap
        have gout : ∀ all : List (List UInt8), (∀ p ∈ all, OkP p) → all.length ≤ 64 → st0 = (0, numN all.length ++ tailP none 0 all) → ∃ p, all[i]? = some p ∧ e35 = 0 ∧ out = p := by
          intro all h1 h2 h3
          obtain ⟨p, ch', hp, hp9, _, e3⟩ := gq all h1 h2 h3
          rcases e3 with e3 | ⟨_, _, bb, hb, e3⟩
          · omega
          · have e9 : x0.p = bb := by
              have e10 := congrArg (fun l : List (List UInt8) => l[i - 1]?) (z5 all h1 h2 h3).1
              simp only [List.getElem?_map, hx0, Option.map_some] at e10
              rw [List.getElem?_take_of_lt (by omega), hb] at e10
              exact Option.some.inj e10
            obtain ⟨q1, q2⟩ := ha2 p hp9 (by rw [e9]; exact e3)
            exact ⟨p, hp, q1, q2⟩
        refine wv h (r_move h rfl) rfl ?_
        clear h a w; intro a w h
        refine wv h (r_extractN h rfl rfl) rfl ?_
        clear h a w; intro a w h
        refine wv h (r_extractN h rfl rfl) rfl ?_
        clear h a w; intro a w h
        refine wv h (r_assign h rfl) rfl ?_
        clear h a w; intro a w h
        refine wv h (r_assign h rfl) rfl ?_
        clear h a w; intro a w h
        refine wnil (c_then ?_)
        refine c_seq ?_
        refine c_seq (c_region ?_)
        refine wv h (r_move h rfl) rfl ?_
        clear h a w; intro a w h
        refine wv h (r_bin h rfl rfl (B.neq_int)) rfl ?_
        clear h a w; intro a w h
        refine wnil (c_then ?_)
        refine c_condP (p := e35 ≠ 0) h rfl (by simp) (fun ht3 => ?_) (fun ht3 => ?_)
        ·
         as_aux_lemma =>
          refine c_seq (c_region ?_)
          refine wv h (r_move h rfl) rfl ?_
          clear h a w; intro a w h
          refine wv h (r_assign h rfl) rfl ?_
          clear h a w; intro a w h
          refine wv h (r_assign h rfl) rfl ?_
          clear h a w; intro a w h
          refine wnil (c_then ?_)
          refine c_ret ?_
          have e7 : e35 = 7 := by
            rcases ha1 with ha1 | ha1
            · exact ha1.1
            · exact absurd ha1.1 ht3
          replace h := (St.addNilM (size := 1) (cells := cellsS) ⟨h.1, satBytNil h.2⟩)
          exact ret2 h rfl rfl rfl ⟨(.slice none 0 0, e35, []), rfl, ((((((((((h.2.front 2 rfl).tail).front 2 rfl).tail).front 2 rfl).tail).front 2 rfl).tail).front 2 rfl).tail), ⟨.inl ⟨e7, rfl⟩, by simp, fun x hx => absurd hx (by simp), fun all h1 h2 h3 => by obtain ⟨_, _, e0, _⟩ := gout all h1 h2 h3; exact absurd e0 ht3⟩⟩
        ·
         have e0 : e35 = 0 := by omega
         have hol : out.length ≤ 900 := by
           rcases ha1 with ha1 | ha1
           · omega
           · exact ha1.2.2
         refine c_skip ?_
         refine c_then ?_
         refine c_region ?_
         refine wv h (r_move h rfl) rfl ?_
         clear h a w; intro a w h
         refine wv h (r_assign h rfl) rfl ?_
         clear h a w; intro a w h
         refine wnil ?_
         replace h := h.mem (fun q => (q.front 1 rfl).tail)
         exact ⟨(v35, out), h.keep [0, 4, 7, 11, 12], ⟨by show out.length ≤ _; omega, fun all h1 h2 h3 => by obtain ⟨p, hp, _, e⟩ := gout all h1 h2 h3; rw [hp, e]⟩⟩
      ·
       refine c_skip ?_
       exact ⟨(v20, q), h.keep [0, 4, 7, 11, 12], ⟨by show q.length ≤ _; omega, fun all h1 h2 h3 => by
         obtain ⟨p, ch', hp, _, _, e3⟩ := gq all h1 h2 h3
         rcases e3 with e3 | e3
         · rw [hp, e3.2]
         · exact absurd ⟨e3.1, e3.2.1⟩ ht2⟩⟩
     ·
      clear h a w; intro z a w hz h
      obtain ⟨pv, p⟩ := z
      obtain ⟨y1, y2⟩ := hz
      simp only at y1 y2 h
      refine c_seq ?_
      refine c_seq (c_region ?_)
      refine wv h (r_move h rfl) rfl ?_
      clear h a w; intro a w h
      refine wl rfl (op_call h rfl K.go_digit_Eye_Fault (eye_FaultI s _ b st3 _ 1 rfl h.2) rfl ?_)
      clear h a w; intro z43 a w hz43 h
      refine wv h (r_bin h rfl rfl (B.neq_int)) rfl ?_
      clear h a w; intro a w h
      refine wnil (c_then ?_)
      refine c_condP (p := st3.1 ≠ 0) h rfl (by simp) (fun ht4 => ?_) (fun ht4 => ?_)
      ·
       as_aux_lemma =>
        refine c_exit ?_
        refine e_then ?_
        refine e_up rfl ?_
        refine e_then ?_
        refine e_then ?_
        refine e_here ?_
        replace h := h.mem (fun q => (q.tail.front 2 rfl).front 2 rfl)
        exact ⟨(v4, xs, st3), h.keep [0, 4], ⟨by simp only; omega, z4, fun all h1 h2 h3 => by obtain ⟨_, _, _, _, e, _⟩ := gq all h1 h2 h3; rw [e] at ht4; exact absurd rfl ht4⟩⟩
      ·
       obtain ⟨A, cap, hpv, _⟩ := (Views.own 0 rfl : ViewsB (OwnB pv p :: _) pv p).shape h.2
       obtain ⟨x, hx⟩ : ∃ x : SlV, x = ⟨A, p.length, cap, p⟩ := ⟨_, rfl⟩
       have hxv : x.v = pv := by rw [hx, hpv]
       have hxp : x.p = p := by rw [hx]
       rw [← hxv, ← hxp] at h
       rw [← hxp] at y1 y2
       refine c_skip ?_
       refine c_then ?_
       refine c_region ?_
       refine wv h (r_move h rfl) rfl ?_
       clear h a w; intro a w h
       refine wv h (r_move h rfl) rfl ?_
       clear h a w; intro a w h
       refine wl rfl (op_buildO h K.u_S_S_uint8 K.sz_S_uint8 K.z_S_uint8 rfl rfl rfl rfl (by simp only [List.mem_cons, List.not_mem_nil, or_false, forall_eq_or_imp, forall_eq]; (repeat' apply And.intro) <;> rfl) rfl ?_)
       clear h a w; intro b47 a w h
       refine wl rfl (op_appendR1 (cells := cellsS) (u := x) h rfl rfl K.u_S_S_uint8 K.sz_S_uint8 K.z_S_uint8 rfl rfl 2 rfl (by omega) rfl ?_)
       clear h a w; intro v48 a w h
       simp only [List.set_cons_succ, List.set_cons_zero] at h
       refine wv h (r_assign h rfl) rfl ?_
       clear h a w; intro a w h
       refine wnil ?_
       refine b_normal ?_
       refine c_then ?_
       refine c_region ?_
       refine wv h (r_bin h rfl rfl (B.add_i64 (by omega) (by omega))) rfl ?_
       clear h a w; intro a w h
       refine wv h (r_move h rfl) rfl ?_
       clear h a w; intro a w h
       refine wnil ?_
       replace h := h.mem (fun q => ((satBytMore (x := x) (q.front 3 rfl)).front 2 rfl).front 2 rfl)
       refine ⟨(i + 1, v48, xs ++ [x], st3), h.keep [0, 4, 11, 12], ⟨by simp [z1], ht1, by simp only; omega, fun y hy => ?_, fun all h1 h2 h3 => ?_⟩, by simp only; omega⟩
       · rcases List.mem_append.1 hy with hy | hy
         · exact z4 y hy
         · simp only [List.mem_singleton] at hy; subst hy; exact y1
       · obtain ⟨_, ch', _, _, e, _⟩ := gq all h1 h2 h3
         refine ⟨?_, ch', e⟩
         simp only [List.map_append, List.map_cons, List.map_nil]
         rw [(z5 all h1 h2 h3).1, List.take_add_one, y2 all h1 h2 h3]; rfl
    ·
     refine c_exit ?_
     refine e_then ?_
     refine e_then ?_
     refine e_here ?_
     replace h := h.mem (fun q => (q.front 2 rfl).front 2 rfl)
     refine ⟨(v4, xs, st), h.keep [0, 4], ⟨by simp only; omega, z4, fun all h1 h2 h3 => ?_⟩⟩
     obtain ⟨e1, ch, e2⟩ := z5 all h1 h2 h3
     have hNa := (hgh all h1 h2 h3).1
     simp only
     rw [e1, e2, List.take_of_length_le (by omega), List.drop_eq_nil_of_le (by omega)]
     exact ⟨rfl, rfl⟩
  ·
   clear h a w; intro z a w hz h
   obtain ⟨v4, xs, st⟩ := z
   obtain ⟨z1, z2, z3⟩ := hz
   simp only at z1 z2 z3 h
   refine c_seq ?_
   refine c_seq (c_region ?_)
   refine wv h (r_move h rfl) rfl ?_
   clear h a w; intro a w h
   refine wl rfl (op_call h rfl K.go_digit_Eye_End (eye_EndI s _ b st _ 2 rfl h.2) rfl ?_)
   clear h a w; intro z51 a w hz51 h
   refine wv h (r_bin h rfl rfl (B.neq_int)) rfl ?_
   clear h a w; intro a w h
   refine wnil (c_then ?_)
   refine c_condP (p := eyeEnd st ≠ 0) h rfl (by simp) (fun ht5 => ?_) (fun ht5 => ?_)
   ·
    as_aux_lemma =>
     refine c_seq (c_region ?_)
     refine wv h (r_assign h rfl) rfl ?_
     clear h a w; intro a w h
     refine wv h (r_assign h rfl) rfl ?_
     clear h a w; intro a w h
     refine wnil (c_then ?_)
     refine c_ret ?_
     replace h := (St.addNilM (size := 1) (cells := cellsS) ⟨h.1, satBytNil h.2⟩)
     exact ret2 h rfl rfl rfl ⟨(.slice none 0 0, 7, []), rfl, ((((((h.2.front 2 rfl).tail).front 2 rfl).tail).front 2 rfl).tail), ⟨.inl ⟨rfl, rfl⟩, by simp, fun x hx => absurd hx (by simp), fun all h1 h2 h3 => by rw [(z3 all h1 h2 h3).2] at ht5; exact absurd rfl ht5⟩⟩
   ·
    refine c_skip ?_
    refine c_then ?_
    refine c_seq (c_region ?_)
    refine wv h (r_move h rfl) rfl ?_
    clear h a w; intro a w h
    refine wv h (r_assign h rfl) rfl ?_
    clear h a w; intro a w h
    refine wv h (r_assign h rfl) rfl ?_
    clear h a w; intro a w h
    refine wnil (c_then ?_)
    refine c_ret ?_
    exact ret2 h rfl rfl rfl ⟨(v4, 0, xs), rfl, ((h.2.front 2 rfl).tail), ⟨.inr rfl, z1, z2, fun all h1 h2 h3 => ⟨rfl, (z3 all h1 h2 h3).1⟩⟩⟩
end Go.Proofs.K

/- Packs: Decode. -/
namespace Go.Sl
def sumOk (p : List UInt8) : Prop := fourN (crcN (p.take (p.length - 4))) = p.drop (p.length - 4)
structure DeR (p : List UInt8) (e : Int) (xs : List SlV) : Prop where
  kind : ((e = 7 ∨ e = 8) ∧ xs = []) ∨ (e = 0 ∧ encP (bytesI (srtd xs)) = some p)
  short : p.length < 4 → e = 7
  sum : 4 ≤ p.length → (e = 8 ↔ ¬ sumOk p)
  back : ∀ all : List (List UInt8), (∀ q ∈ all, OkP q) → all.length ≤ 64 → p = sealP (headP all.length ++ tailP none 0 all) → (∀ ys : List SlV, ys.map SlV.p = all → bytesI (srtd ys) = all) → e = 0 ∧ xs.map SlV.p = all
  bnd : xs.length ≤ 64 ∧ ∀ x ∈ xs, x.p.length ≤ p.length + 900
theorem seal_back (b : List UInt8) : (sealP b).length = b.length + 4 ∧ (sealP b).take ((sealP b).length - 4) = b ∧ sumOk (sealP b) := by
  have h4 : (fourN (crcN b)).length = 4 := rfl
  have hl : (sealP b).length = b.length + 4 := by rw [sealP, List.length_append, h4]
  have ht : (sealP b).take ((sealP b).length - 4) = b := by rw [hl, Nat.add_sub_cancel, sealP, List.take_left' rfl]
  have hd : (sealP b).drop ((sealP b).length - 4) = fourN (crcN b) := by rw [hl, Nat.add_sub_cancel, sealP, List.drop_left' rfl]
  exact ⟨hl, ht, by rw [sumOk, ht, hd]⟩
theorem encP_tail {ps : List (List UInt8)} (h1 : ∀ p ∈ ps, OkP p) (h2 : ps.length ≤ 64) : encP ps = some (sealP (headP ps.length ++ tailP none 0 ps)) := by
  rw [encP, if_neg (by omega), encG_some _ _ _ _ h1]; rfl
end Go.Sl
namespace Go.Proofs.K
open Go.Sl
attribute [local irreducible] Go.Sl.Own Go.Sl.Blk Go.Sl.Sep Go.Sl.Ex Go.Sl.Fact
theorem pack_Decode (s w : World) (v : Value) (p : List UInt8) (F : List HItem) (hT : HasParts F) (hF : HasFirst F) (hC : HasLines F) (hv : ViewsB F v p) (hl : p.length ≤ 80000) (hs : Sat s w F) :
    Calls P n_pack_Decode #[v] w (Ret s (fun z : Value × Int × List SlV => .tuple #[z.1, .int .i64 z.2.1]) (fun z => OwnM 1 cellsS z.1 z.2.2 :: BytI z.2.2 :: F) (fun z => DeR p z.2.1 z.2.2)) := by
  refine enter K.fn_pack_Decode rfl K.nt_pack_Decode rfl hs ?_
  clear hs w; intro a w h
  refine c_seq (c_region ?_)
  refine wv h (r_assign h rfl) rfl ?_
  clear h a w; intro a w h
  refine wv h (r_assign h rfl) rfl ?_
  clear h a w; intro a w h
  refine wnil (c_then ?_)
  refine c_seq (c_region ?_)
  refine wv h (r_move h rfl) rfl ?_
  clear h a w; intro a w h
  refine wv h (r_lenB h rfl K.u_S_uint8 (by assumption)) rfl ?_
  clear h a w; intro a w h
  refine wv h (r_bin h rfl rfl (B.sub_i64 (by omega) (by omega))) rfl ?_
  clear h a w; intro a w h
  refine wv h (r_assign h rfl) rfl ?_
  clear h a w; intro a w h
  refine wnil (c_then ?_)
  refine c_seq ?_
  refine c_block ?_
  refine c_seq (c_region ?_)
  refine wv h (r_move h rfl) rfl ?_
  clear h a w; intro a w h
  refine wv h (r_bin h rfl rfl (B.lss_int)) rfl ?_
  clear h a w; intro a w h
  refine wv h (r_assign h rfl) rfl ?_
  clear h a w; intro a w h
  refine wnil (c_then ?_)
  refine c_condP (p := p.length < 4) h rfl (by simp; omega) (fun ht1 => ?_) (fun ht1 => ?_)
  ·
   as_aux_lemma =>
    refine c_seq (c_region ?_)
    refine wv h (r_assign h rfl) rfl ?_
    clear h a w; intro a w h
    refine wv h (r_assign h rfl) rfl ?_
    clear h a w; intro a w h
    refine wnil (c_then ?_)
    refine c_ret ?_
    replace h := (St.addNilM (size := 1) (cells := cellsS) ⟨h.1, satBytNil h.2⟩)
    exact ret2 h rfl rfl rfl ⟨(.slice none 0 0, 7, []), rfl, h.2, ⟨.inl ⟨.inl rfl, rfl⟩, fun _ => rfl, fun q => by omega, fun all _ _ e _ => by have := (seal_back (headP all.length ++ tailP none 0 all)).1; rw [← e] at this; omega, by simp, fun x hx => absurd hx (by simp)⟩⟩
  ·
   obtain ⟨n, hn⟩ : ∃ n, n = p.length - 4 := ⟨_, rfl⟩
   rw [show ((p.length : Int) - 4) = (n : Int) by omega] at h
   have hvn : ViewsB F (subV 1 v 0 n) (p.take n) := by have := hv.sub (i := 0) (j := n) (by omega) (by omega); simpa using this
   have hvd : ViewsB F (subV 1 v n p.length) (p.drop n) := by
     have := hv.sub (i := n) (j := p.length) (by omega) (by omega)
     rwa [List.take_of_length_le (by simp)] at this
   have hln : (p.take n).length = n := by rw [List.length_take]; omega
   obtain ⟨bd, hbd⟩ : ∃ b, b = p.take n := ⟨_, rfl⟩
   have hb32 : UInt32.ofInt ((crcN bd).toNat : Int) = crcN bd := by rw [← UInt32.toNat_inj, ofInt32]; have := (crcN bd).toNat_lt; omega
   rw [← hbd] at hvn hln
   refine c_seq (c_drawn 13 K.mixed rfl h ?_)
   clear h a w; intro a w h
   have hD : Paid s w [] := Paid.nil
   refine d_take0 (listed' := #[true, false, false, false, false, false, false, false, false, false, false, false, false]) h hD 0 (by as_aux_lemma => kernel_rfl) rfl (by as_aux_lemma => kernel_rfl) (by as_aux_lemma => kernel_rfl) (by as_aux_lemma => kernel_rfl) (fun _ _ _ _ hh => hh) (fun w h => by exact r_move h rfl) rfl ?_
   clear hD h a w; intro a w h hD
   refine d_take0 (listed' := #[true, true, false, false, false, false, false, false, false, false, false, false, false]) h hD 1 (by as_aux_lemma => kernel_rfl) rfl (by as_aux_lemma => kernel_rfl) (by as_aux_lemma => kernel_rfl) (by as_aux_lemma => kernel_rfl) (fun _ _ _ _ hh => hh) (fun w h => by exact r_move h rfl) rfl ?_
   clear hD h a w; intro a w h hD
   refine d_take (listed' := #[true, true, true, false, false, false, false, false, false, false, false, false, false]) h hD 2 (F) (by as_aux_lemma => kernel_rfl) rfl (by as_aux_lemma => kernel_rfl) (by as_aux_lemma => kernel_rfl) (by as_aux_lemma => kernel_rfl) (fun _ _ _ _ hh => hh) (by exact h.2) (fun w hw => by exact r_sliceB /- Views -/ ⟨h.1, hw⟩ rfl K.u_S_uint8 K.sz_uint8 hv 0 n rfl ⟨_, rfl⟩ (by omega) (by omega)) rfl ?_
   clear hD h a w; intro a w h hD
   refine d_take0 (listed' := #[true, true, true, false, false, false, false, true, false, false, false, false, false]) h hD 7 (by as_aux_lemma => kernel_rfl) rfl (by as_aux_lemma => kernel_rfl) (by as_aux_lemma => kernel_rfl) (by as_aux_lemma => kernel_rfl) (fun _ _ _ _ hh => hh) (fun w h => by exact r_move h rfl) rfl ?_
   clear hD h a w; intro a w h hD
   refine d_take0 (listed' := #[true, true, true, false, false, false, false, true, true, false, false, false, false]) h hD 8 (by as_aux_lemma => kernel_rfl) rfl (by as_aux_lemma => kernel_rfl) (by as_aux_lemma => kernel_rfl) (by as_aux_lemma => kernel_rfl) (fun _ _ _ _ hh => hh) (fun w h => by exact r_move h rfl) rfl ?_
   clear hD h a w; intro a w h hD
   refine d_take (listed' := #[true, true, true, false, false, false, false, true, true, true, false, false, false]) h hD 9 (F) (by as_aux_lemma => kernel_rfl) rfl (by as_aux_lemma => kernel_rfl) (by as_aux_lemma => kernel_rfl) (by as_aux_lemma => kernel_rfl) (fun _ _ _ _ hh => hh) (by exact h.2) (fun w hw => by exact r_sliceB /- Views -/ ⟨h.1, hw⟩ rfl K.u_S_uint8 K.sz_uint8 hv n p.length ⟨_, rfl⟩ rfl (by omega) (Nat.le_refl _)) rfl ?_
   clear hD h a w; intro a w h hD
   refine d_take (listed' := #[true, true, true, false, false, false, false, true, true, true, true, false, false]) h hD 10 _ (by as_aux_lemma => kernel_rfl) rfl (by as_aux_lemma => kernel_rfl) (by as_aux_lemma => kernel_rfl) (by as_aux_lemma => kernel_rfl) (fun _ _ _ _ hh => hh) h.2 (fun w hw => by exact r_b2sb ⟨h.1, hw⟩ rfl K.u_S_uint8 K.u_uint8 K.u_string (by assumption)) rfl ?_
   clear hD h a w; intro a w h hD
   refine d_only (listed' := #[true, true, true, true, false, false, false, true, true, true, true, false, false]) 3 [true, true, false] (by as_aux_lemma => kernel_rfl) rfl rfl (by as_aux_lemma => kernel_rfl) (by as_aux_lemma => kernel_rfl) ?_
   refine op_call h rfl K.go_check_Of (check_of s _ (subV 1 v 0 n) bd _ hC hvn h.2) rfl ?_
   clear hD h a w; intro x a w hx h
   (simp only [List.set_cons_zero, List.set_cons_succ] at h)
   refine d_pay (Paid.cons (by exact h.2) (Paid.cons (by exact h.2) (Paid.nil))) (fun hD => ?_)
   refine d_take0 (listed' := #[true, true, true, true, true, false, false, true, true, true, true, false, false]) h hD 4 (by as_aux_lemma => kernel_rfl) rfl (by as_aux_lemma => kernel_rfl) (by as_aux_lemma => kernel_rfl) (by as_aux_lemma => kernel_rfl) (fun _ _ _ _ hh => hh) (fun w h => by exact r_conv h rfl K.u_uint32 K.u_int (C.i64_u32) ) rfl ?_
   clear hD h a w; intro a w h hD
   refine d_only (listed' := #[true, true, true, true, true, true, false, true, true, true, true, false, false]) 5 [true, true] (by as_aux_lemma => kernel_rfl) rfl rfl (by as_aux_lemma => kernel_rfl) (by as_aux_lemma => kernel_rfl) ?_
   refine op_call h rfl K.go_check_Four (check_four s _ ((crcN bd).toNat : Int) _ h.2) rfl ?_
   clear hD h a w; intro v22 a w hz22 h
   rw [hb32] at h
   refine d_pay (Paid.cons (by exact h.2.drop 1) (Paid.cons (by exact h.2.drop 1) (Paid.nil))) (fun hD => ?_)
   refine d_take (listed' := #[true, true, true, true, true, true, true, true, true, true, true, false, false]) h hD 6 _ (by as_aux_lemma => kernel_rfl) rfl (by as_aux_lemma => kernel_rfl) (by as_aux_lemma => kernel_rfl) (by as_aux_lemma => kernel_rfl) (fun _ _ _ _ hh => hh) h.2 (fun w hw => by exact r_b2sb ⟨h.1, hw⟩ rfl K.u_S_uint8 K.u_uint8 K.u_string (by exact ViewsB.own 0 rfl)) rfl ?_
   clear hD h a w; intro a w h hD
   refine d_take0 (listed' := #[true, true, true, true, true, true, true, true, true, true, true, true, false]) h hD 11 (by as_aux_lemma => kernel_rfl) rfl (by as_aux_lemma => kernel_rfl) (by as_aux_lemma => kernel_rfl) (by as_aux_lemma => kernel_rfl) (fun _ _ _ _ hh => hh) (fun w h => by exact r_strne h rfl rfl) rfl ?_
   clear hD h a w; intro a w h hD
   refine d_take0 (listed' := #[true, true, true, true, true, true, true, true, true, true, true, true, true]) h hD 12 (by as_aux_lemma => kernel_rfl) rfl (by as_aux_lemma => kernel_rfl) (by as_aux_lemma => kernel_rfl) (by as_aux_lemma => kernel_rfl) (fun _ _ _ _ hh => hh) (fun w h => by exact r_assign h rfl) rfl ?_
   clear hD h a w; intro a w h hD
   refine d_done (by kernel_rfl) ?_
   clear hD
   refine c_then ?_
   refine c_condP (p := fourN (crcN bd) ≠ p.drop n) h rfl (by simp) (fun ht2 => ?_) (fun ht2 => ?_)
   ·
    as_aux_lemma =>
     refine c_seq (c_region ?_)
     refine wv h (r_assign h rfl) rfl ?_
     clear h a w; intro a w h
     refine wv h (r_assign h rfl) rfl ?_
     clear h a w; intro a w h
     refine wnil (c_then ?_)
     refine c_ret ?_
     replace h := (St.addNilM (size := 1) (cells := cellsS) ⟨h.1, satBytNil h.2.tail⟩)
     have hns : ¬ sumOk p := by rw [sumOk, ← hn, ← hbd]; exact ht2
     exact ret2 h rfl rfl rfl ⟨(.slice none 0 0, 8, []), rfl, h.2, ⟨.inl ⟨.inr rfl, rfl⟩, fun q => by omega, fun _ => ⟨fun _ => hns, fun _ => rfl⟩, fun all _ _ e _ => by rw [e] at hns; exact absurd (seal_back _).2.2 hns, by simp, fun x hx => absurd hx (by simp)⟩⟩
   ·
    have hso : sumOk p := by
      rw [sumOk, ← hn, ← hbd]
      exact Classical.not_not.1 ht2
    have hpe : p = sealP bd := by
      rw [sealP]
      conv => lhs; rw [← List.take_append_drop n p]
      rw [← hbd, Classical.not_not.1 ht2]
    replace h := h.mem (fun q => q.tail)
    refine c_skip ?_
    refine b_normal ?_
    refine c_then ?_
    refine c_seq (c_region ?_)
    refine wv h (r_move h rfl) rfl ?_
    clear h a w; intro a w h
    refine wv h (r_move h rfl) rfl ?_
    clear h a w; intro a w h
    refine wv h (r_sliceB h rfl K.u_S_uint8 K.sz_uint8 hv 0 n rfl ⟨_, rfl⟩ (by omega) (by omega)) rfl ?_
    clear h a w; intro a w h
    refine wl rfl (op_call h rfl K.go_digit_NewEye (eye_New s _ (subV 1 v 0 n) bd _ hvn (by omega) h.2) rfl ?_)
    clear h a w; intro be a w hz32 h
    refine wv h (r_assign h rfl) rfl ?_
    clear h a w; intro a w h
    refine wnil (c_then ?_)
    refine c_seq ?_
    refine c_seq (c_region ?_)
    refine wv h (r_move h rfl) rfl ?_
    clear h a w; intro a w h
    refine wl rfl (op_call h rfl K.go_digit_Eye_Raw (eye_Raw s _ be (0, bd) 2 _ 0 rfl (by simp only; omega) h.2) rfl ?_)
    clear h a w; intro v34 a w hz34 h
    (simp only [List.set_cons_zero, List.set_cons_succ] at h)
    obtain ⟨hr1, hr2⟩ := eyeRaw_len2 (0, bd) 2
    obtain ⟨q, hq⟩ : ∃ q, q = (eyeRaw (0, bd) 2).1 := ⟨_, rfl⟩
    obtain ⟨st, hst⟩ : ∃ q, q = (eyeRaw (0, bd) 2).2 := ⟨_, rfl⟩
    rw [← hq, ← hst] at h
    rw [← hst] at hr2
    simp only at hr2
    have hback : ∀ all : List (List UInt8), p = sealP (headP all.length ++ tailP none 0 all) → q = [80, 49] ∧ st = (0, numN all.length ++ tailP none 0 all) := by
      intro all e
      have eb : bd = [80, 49] ++ (numN all.length ++ tailP none 0 all) := by
        have := congrArg (fun l : List UInt8 => l.take (l.length - 4)) e
        simp only [(seal_back _).2.1, ← hn, ← hbd] at this
        rw [this, headP, List.append_assoc]
      have e6 := eyeRaw_enc [80, 49] (numN all.length ++ tailP none 0 all) 2 rfl
      rw [← eb] at e6
      rw [hq, hst, e6]
      exact ⟨rfl, rfl⟩
    refine wv h (r_b2sb h rfl K.u_S_uint8 K.u_uint8 K.u_string (by exact ViewsB.own 0 rfl)) rfl ?_
    clear h a w; intro a w h
    refine wv h (r_strne h rfl rfl) rfl ?_
    clear h a w; intro a w h
    refine wnil (c_then ?_)
    refine c_condP (p := q ≠ [80, 49]) h rfl (by simp) (fun ht3 => ?_) (fun ht3 => ?_)
    ·
     as_aux_lemma =>
      refine c_seq (c_region ?_)
      refine wv h (r_assign h rfl) rfl ?_
      clear h a w; intro a w h
      refine wv h (r_assign h rfl) rfl ?_
      clear h a w; intro a w h
      refine wnil (c_then ?_)
      refine c_ret ?_
      replace h := (St.addNilM (size := 1) (cells := cellsS) ⟨h.1, satBytNil h.2.tail.tail⟩)
      exact ret2 h rfl rfl rfl ⟨(.slice none 0 0, 7, []), rfl, h.2, ⟨.inl ⟨.inl rfl, rfl⟩, fun _ => rfl, fun _ => ⟨fun q => (by cases q), fun q => absurd hso q⟩, fun all _ _ e _ => absurd (hback all e).1 ht3, by simp, fun x hx => absurd hx (by simp)⟩⟩
    ·
     refine c_skip ?_
     refine c_then ?_
     replace h := h.mem (fun q => q.tail)
     refine c_seq (c_region ?_)
     refine wv h (r_move h rfl) rfl ?_
     clear h a w; intro a w h
     refine wl rfl (op_call h rfl K.go_pack_read (pack_read s _ be st _ (by omega) h.2) rfl ?_)
     clear h a w; intro z39 a w hrd h
     obtain ⟨v6, e7, xs⟩ := z39
     simp only at hrd h
     obtain ⟨rd1, rd2, rd3, rd4⟩ := hrd
     refine wv h (r_move h rfl) rfl ?_
     clear h a w; intro a w h
     refine wv h (r_extractN h rfl rfl) rfl ?_
     clear h a w; intro a w h
     refine wv h (r_extractN h rfl rfl) rfl ?_
     clear h a w; intro a w h
     refine wv h (r_assign h rfl) rfl ?_
     clear h a w; intro a w h
     refine wv h (r_assign h rfl) rfl ?_
     clear h a w; intro a w h
     refine wnil (c_then ?_)
     refine c_seq ?_
     refine c_seq (c_region ?_)
     refine wv h (r_move h rfl) rfl ?_
     clear h a w; intro a w h
     refine wv h (r_bin h rfl rfl (B.neq_int)) rfl ?_
     clear h a w; intro a w h
     refine wnil (c_then ?_)
     refine c_condP (p := e7 ≠ 0) h rfl (by simp) (fun ht4 => ?_) (fun ht4 => ?_)
     ·
      as_aux_lemma =>
       refine c_seq (c_region ?_)
       refine wv h (r_move h rfl) rfl ?_
       clear h a w; intro a w h
       refine wv h (r_assign h rfl) rfl ?_
       clear h a w; intro a w h
       refine wv h (r_assign h rfl) rfl ?_
       clear h a w; intro a w h
       refine wnil (c_then ?_)
       refine c_ret ?_
       have ee : e7 = 7 := by
         rcases rd1 with rd1 | rd1
         · exact rd1.1
         · exact absurd rd1 ht4
       replace h := (St.addNilM (size := 1) (cells := cellsS) ⟨h.1, satBytNil h.2.tail.tail⟩)
       exact ret2 h rfl rfl rfl ⟨(.slice none 0 0, e7, []), rfl, h.2, ⟨.inl ⟨.inl ee, rfl⟩, fun _ => ee, fun _ => ⟨fun q => (by rw [ee] at q; cases q), fun q => absurd hso q⟩, fun all h1 h2 e _ => absurd (rd4 all h1 h2 (hback all e).2).1 ht4, by simp, fun x hx => absurd hx (by simp)⟩⟩
     ·
      have e0 : e7 = 0 := by omega
      refine c_skip ?_
      refine c_then ?_
      refine c_seq ?_
      refine c_seq (c_region ?_)
      refine wv h (r_move h rfl) rfl ?_
      clear h a w; intro a w h
      refine wl rfl (op_call h rfl K.go_pack_Encode (pack_Encode s _ v6 xs _ ((hT.cons _).cons _) ((hF.cons _).cons _) ((hC.cons _).cons _) (Views.own 0 rfl) (fun x hx => ⟨BytI.view 1 rfl x hx, by have := rd3 x hx; omega⟩) (by omega) h.2) rfl ?_)
      clear h a w; intro v47 a w hz47 h
      obtain ⟨en, hen⟩ : ∃ en, en = encP (bytesI (srtd xs)) := ⟨_, rfl⟩
      rw [← hen] at h
      refine wv h (r_move h rfl) rfl ?_
      clear h a w; intro a w h
      refine wv h (r_extractN h rfl rfl) rfl ?_
      clear h a w; intro a w h
      refine wv h (r_extractN h rfl rfl) rfl ?_
      clear h a w; intro a w h
      refine wv h (r_assign h rfl) rfl ?_
      clear h a w; intro a w h
      refine wv h (r_assign h rfl) rfl ?_
      clear h a w; intro a w h
      refine wnil (c_then ?_)
      refine c_seq (c_region ?_)
      refine wv h (r_move h rfl) rfl ?_
      clear h a w; intro a w h
      refine wv h (r_bin h rfl rfl (B.neq_int)) rfl ?_
      clear h a w; intro a w h
      refine wv h (r_move h rfl) rfl ?_
      clear h a w; intro a w h
      refine wvG h (by exact .f rfl) (fun hg => by (have hg2 := hg; (simp only [Bool.and_eq_true, Bool.or_eq_true, Bool.not_eq_true', decide_eq_true_eq, decide_eq_false_iff_not] at hg2)); exact r_move h rfl) rfl ?_
      clear h a w; intro a w h
      refine wvG h (by exact .f rfl) (fun hg => by (simp only [↓gval_on hg, ↓gval_and hg] at h); (have hg2 := hg; (simp only [Bool.and_eq_true, Bool.or_eq_true, Bool.not_eq_true', decide_eq_true_eq, decide_eq_false_iff_not] at hg2)); exact r_b2sb h rfl K.u_S_uint8 K.u_uint8 K.u_string (by exact ViewsB.own 0 rfl)) rfl ?_
      clear h a w; intro a w h
      refine wvG h (by exact .f rfl) (fun hg => by (simp only [↓gval_on hg, ↓gval_and hg] at h); (have hg2 := hg; (simp only [Bool.and_eq_true, Bool.or_eq_true, Bool.not_eq_true', decide_eq_true_eq, decide_eq_false_iff_not] at hg2)); exact r_move h rfl) rfl ?_
      clear h a w; intro a w h
      refine wvG h (by exact .f rfl) (fun hg => by (simp only [↓gval_on hg, ↓gval_and hg] at h); (have hg2 := hg; (simp only [Bool.and_eq_true, Bool.or_eq_true, Bool.not_eq_true', decide_eq_true_eq, decide_eq_false_iff_not] at hg2)); exact r_b2sb h rfl K.u_S_uint8 K.u_uint8 K.u_string (by exact ViewsB.of_drop 3 (by assumption))) rfl ?_
      clear h a w; intro a w h
      refine wvG h (by exact .f rfl) (fun hg => by (simp only [↓gval_on hg, ↓gval_and hg] at h); (have hg2 := hg; (simp only [Bool.and_eq_true, Bool.or_eq_true, Bool.not_eq_true', decide_eq_true_eq, decide_eq_false_iff_not] at hg2)); exact r_strne h rfl rfl) rfl ?_
      clear h a w; intro a w h
      refine wv h (r_pickO h rfl rfl rfl) rfl ?_
      clear h a w; intro a w h
      refine wnil (c_then ?_)
      refine c_condP (p := en ≠ some p) h rfl (by cases en <;> simp) (fun ht5 => ?_) (fun ht5 => ?_)
      ·
       have hbk : ∀ all : List (List UInt8), (∀ q ∈ all, OkP q) → all.length ≤ 64 → p = sealP (headP all.length ++ tailP none 0 all) → (∀ ys : List SlV, ys.map SlV.p = all → bytesI (srtd ys) = all) → False := by
         intro all h1 h2 e h4
         have e2 := (rd4 all h1 h2 (hback all e).2).2
         rw [hen, h4 xs e2, encP_tail h1 h2, ← e] at ht5
         exact ht5 rfl
       as_aux_lemma =>
        refine c_seq (c_region ?_)
        refine wv h (r_assign h rfl) rfl ?_
        clear h a w; intro a w h
        refine wv h (r_assign h rfl) rfl ?_
        clear h a w; intro a w h
        refine wnil (c_then ?_)
        refine c_ret ?_
        replace h := (St.addNilM (size := 1) (cells := cellsS) ⟨h.1, satBytNil h.2.tail.tail.tail⟩)
        exact ret2 h rfl rfl rfl ⟨(.slice none 0 0, 7, []), rfl, h.2, ⟨.inl ⟨.inl rfl, rfl⟩, fun _ => rfl, fun _ => ⟨fun q => (by cases q), fun q => absurd hso q⟩, fun all h1 h2 e h4 => (hbk all h1 h2 e h4).elim, by simp, fun x hx => absurd hx (by simp)⟩⟩
      ·
       refine c_skip ?_
       refine c_then ?_
       refine c_seq (c_region ?_)
       refine wv h (r_move h rfl) rfl ?_
       clear h a w; intro a w h
       refine wv h (r_assign h rfl) rfl ?_
       clear h a w; intro a w h
       refine wv h (r_assign h rfl) rfl ?_
       clear h a w; intro a w h
       refine wnil (c_then ?_)
       refine c_ret ?_
       have he5 : en = some p := Classical.not_not.1 ht5
       exact ret2 h rfl rfl rfl ⟨(v6, 0, xs), rfl, h.2.tail, ⟨.inr ⟨rfl, by rw [← hen]; exact he5⟩, fun q => by omega, fun _ => ⟨fun q => (by cases q), fun q => absurd hso q⟩, fun all h1 h2 e _ => ⟨rfl, (rd4 all h1 h2 (hback all e).2).2⟩, rd2, fun x hx => by have := rd3 x hx; omega⟩⟩
end Go.Proofs.K

/- The laws of layer 16, walked: awake, PackOne. -/
namespace Go.Sl
theorem srtd_one (x : SlV) : bytesI (srtd [x]) = [x.p] := rfl
theorem numN0 : numN 0 = [128] := by decide +kernel
theorem numN1 : numN 1 = [129] := by decide +kernel
end Go.Sl
namespace Go.Proofs.K
open Go.Sl
attribute [local irreducible] Go.Sl.Own Go.Sl.Blk Go.Sl.Sep Go.Sl.Ex Go.Sl.Fact
theorem law16_awake (s w : World) (F : List HItem) (hT : HasParts F) (hF : HasFirst F) (hC : HasLines F) (hs : Sat s w F) : Calls P n_law16_awake #[] w (Ret s (fun _ : Unit => .bool true) (fun _ => F) (fun _ => True)) := by
  refine enter K.fn_law16_awake rfl K.nt_law16_awake rfl hs ?_
  clear hs w; intro a w h
  refine c_seq (c_region ?_)
  refine wv h (r_assign h rfl) rfl ?_
  clear h a w; intro a w h
  refine wnil (c_then ?_)
  refine c_seq (c_region ?_)
  refine wl rfl (op_call h rfl K.go_pack_Encode (pack_Encode s _ (.slice none 0 0) [] _ hT hF hC (Views.nil _ 1) (fun x hx => absurd hx (by simp)) (by simp) h.2) rfl ?_)
  clear h a w; intro v6 a w hz6 h
  (simp only [List.set_cons_zero, List.set_cons_succ] at h)
  obtain ⟨pb, hpb⟩ : ∃ pb, pb = sealP (headP 0 ++ tailP none 0 []) := ⟨_, rfl⟩
  have he : encP (bytesI (srtd [])) = some pb := by rw [hpb]; exact encP_tail (ps := []) (fun p hp => absurd hp (by simp)) (by simp)
  have hpl : pb.length = 7 := by rw [hpb, (seal_back _).1]; simp [headP, tailP, numN0]
  have hp3 : pb.take 3 = [80, 49, 128] := by rw [hpb]; simp [sealP, headP, tailP, numN0]
  rw [he] at h
  simp only [Option.isSome_some, Option.getD_some, if_true] at h
  refine wv h (r_move h rfl) rfl ?_
  clear h a w; intro a w h
  refine wv h (r_extractN h rfl rfl) rfl ?_
  clear h a w; intro a w h
  refine wv h (r_extractN h rfl rfl) rfl ?_
  clear h a w; intro a w h
  refine wv h (r_assign h rfl) rfl ?_
  clear h a w; intro a w h
  refine wv h (r_assign h rfl) rfl ?_
  clear h a w; intro a w h
  refine wnil (c_then ?_)
  refine c_seq (c_region ?_)
  refine wv h (r_move h rfl) rfl ?_
  clear h a w; intro a w h
  refine wl rfl (op_call h rfl K.go_pack_Decode (pack_Decode s _ v6 pb _ (hT.cons _) (hF.cons _) (hC.cons _) (Views.own 0 rfl) (by omega) h.2) rfl ?_)
  clear h a w; intro z11 a w hde h
  obtain ⟨v11, e11, xs⟩ := z11
  simp only at hde h
  obtain ⟨d1, d2⟩ := hde.back [] (fun q hq => absurd hq (by simp)) (by simp) hpb (fun ys hy => by rw [List.map_eq_nil_iff] at hy; subst hy; rfl)
  have hxs : xs = [] := by simpa using d2
  subst hxs
  rw [d1] at h
  refine wv h (r_move h rfl) rfl ?_
  clear h a w; intro a w h
  refine wv h (r_extractN h rfl rfl) rfl ?_
  clear h a w; intro a w h
  refine wv h (r_extractN h rfl rfl) rfl ?_
  clear h a w; intro a w h
  refine wv h (r_assign h rfl) rfl ?_
  clear h a w; intro a w h
  refine wv h (r_assign h rfl) rfl ?_
  clear h a w; intro a w h
  refine wnil (c_then ?_)
  refine c_seq (c_region ?_)
  refine wv h (r_move h rfl) rfl ?_
  clear h a w; intro a w h
  refine wv h (r_bin h rfl rfl (B.eql_int)) rfl ?_
  clear h a w; intro a w h
  refine wv h (r_move h rfl) rfl ?_
  clear h a w; intro a w h
  refine wvG h (by exact .t rfl) (fun hg => by (simp only [↓gval_on hg, ↓gval_and hg] at h); (have hg2 := hg; (simp only [Bool.and_eq_true, Bool.or_eq_true, Bool.not_eq_true', decide_eq_true_eq, decide_eq_false_iff_not] at hg2)); exact r_move h rfl) rfl ?_
  clear h a w; intro a w h
  refine wvG h (by exact .t rfl) (fun hg => by (simp only [↓gval_on hg, ↓gval_and hg] at h); (have hg2 := hg; (simp only [Bool.and_eq_true, Bool.or_eq_true, Bool.not_eq_true', decide_eq_true_eq, decide_eq_false_iff_not] at hg2)); exact r_bin h rfl rfl (B.eql_int)) rfl ?_
  clear h a w; intro a w h
  refine wv h (r_pickA h rfl rfl rfl) rfl ?_
  clear h a w; intro a w h
  refine wv h (r_move h rfl) rfl ?_
  clear h a w; intro a w h
  refine wvG h (by exact .t rfl) (fun hg => by (simp only [↓gval_on hg, ↓gval_and hg] at h); (have hg2 := hg; (simp only [Bool.and_eq_true, Bool.or_eq_true, Bool.not_eq_true', decide_eq_true_eq, decide_eq_false_iff_not] at hg2)); exact r_move h rfl) rfl ?_
  clear h a w; intro a w h
  refine wvG h (by exact .t rfl) (fun hg => by (simp only [↓gval_on hg, ↓gval_and hg] at h); (have hg2 := hg; (simp only [Bool.and_eq_true, Bool.or_eq_true, Bool.not_eq_true', decide_eq_true_eq, decide_eq_false_iff_not] at hg2)); exact r_lenB h rfl K.u_S_uint8 (by exact ViewsB.own 2 rfl)) rfl ?_
  clear h a w; intro a w h
  refine wvG h (by exact .t rfl) (fun hg => by (simp only [↓gval_on hg, ↓gval_and hg] at h); (have hg2 := hg; (simp only [Bool.and_eq_true, Bool.or_eq_true, Bool.not_eq_true', decide_eq_true_eq, decide_eq_false_iff_not] at hg2)); exact r_bin h rfl rfl (B.eql_int)) rfl ?_
  clear h a w; intro a w h
  refine wv h (r_pickA h rfl rfl rfl) rfl ?_
  clear h a w; intro a w h
  refine wv h (r_move h rfl) rfl ?_
  clear h a w; intro a w h
  refine wvG h (by exact .t rfl) (fun hg => by (simp only [↓gval_on hg, ↓gval_and hg] at h); (have hg2 := hg; (simp only [Bool.and_eq_true, Bool.or_eq_true, Bool.not_eq_true', decide_eq_true_eq, decide_eq_false_iff_not] at hg2)); exact r_move h rfl) rfl ?_
  clear h a w; intro a w h
  refine wvG h (by exact .t rfl) (fun hg => by (simp only [↓gval_on hg, ↓gval_and hg] at h); (have hg2 := hg; (simp only [Bool.and_eq_true, Bool.or_eq_true, Bool.not_eq_true', decide_eq_true_eq, decide_eq_false_iff_not] at hg2)); exact r_sliceB h rfl K.u_S_uint8 K.sz_uint8 (by exact ViewsB.own 2 rfl) _ _ Bnd.no (Bnd.of rfl (by omega)) (by omega) (by omega)) rfl ?_
  clear h a w; intro a w h
  refine wvG h (by exact .t rfl) (fun hg => by (simp only [↓gval_on hg, ↓gval_and hg] at h); (have hg2 := hg; (simp only [Bool.and_eq_true, Bool.or_eq_true, Bool.not_eq_true', decide_eq_true_eq, decide_eq_false_iff_not] at hg2)); exact r_b2sb h rfl K.u_S_uint8 K.u_uint8 K.u_string (by exact ViewsB.sub (by exact ViewsB.own 2 rfl) (by omega) (by omega))) rfl ?_
  clear h a w; intro a w h
  refine wvG h (by exact .t rfl) (fun hg => by (simp only [↓gval_on hg, ↓gval_and hg] at h); (have hg2 := hg; (simp only [Bool.and_eq_true, Bool.or_eq_true, Bool.not_eq_true', decide_eq_true_eq, decide_eq_false_iff_not] at hg2)); exact r_streq h rfl rfl) rfl ?_
  clear h a w; intro a w h
  refine wv h (r_pickA h rfl rfl rfl) rfl ?_
  clear h a w; intro a w h
  refine wv h (r_move h rfl) rfl ?_
  clear h a w; intro a w h
  refine wvG h (by exact .t rfl) (fun hg => by (simp only [↓gval_on hg, ↓gval_and hg] at h); (have hg2 := hg; (simp only [Bool.and_eq_true, Bool.or_eq_true, Bool.not_eq_true', decide_eq_true_eq, decide_eq_false_iff_not] at hg2)); exact r_move h rfl) rfl ?_
  clear h a w; intro a w h
  refine wvG h (by exact .t rfl) (fun hg => by (simp only [↓gval_on hg, ↓gval_and hg] at h); (have hg2 := hg; (simp only [Bool.and_eq_true, Bool.or_eq_true, Bool.not_eq_true', decide_eq_true_eq, decide_eq_false_iff_not] at hg2)); exact r_lenV h rfl K.u_S_S_uint8 (by exact Views.own 0 rfl)) rfl ?_
  clear h a w; intro a w h
  refine wvG h (by exact .t rfl) (fun hg => by (simp only [↓gval_on hg, ↓gval_and hg] at h); (have hg2 := hg; (simp only [Bool.and_eq_true, Bool.or_eq_true, Bool.not_eq_true', decide_eq_true_eq, decide_eq_false_iff_not] at hg2)); exact r_bin h rfl rfl (B.eql_int)) rfl ?_
  clear h a w; intro a w h
  refine wv h (r_pickA h rfl rfl rfl) rfl ?_
  clear h a w; intro a w h
  have hb : (decide ((0 : Int) = 0) && decide ((0 : Int) = 0) && decide ((pb.length : Int) = 7) && decide (List.take (3 - 0) (List.drop 0 pb) = [80, 49, 128]) && decide ((([] : List SlV).length : Int) = 0)) = true := by simp [hpl, hp3]
  rw [hb] at h
  refine wv h (r_move h rfl) rfl ?_
  clear h a w; intro a w h
  refine wv h (r_pickA h rfl rfl rfl) rfl ?_
  clear h a w; intro a w h
  refine wv h (r_move h rfl) rfl ?_
  clear h a w; intro a w h
  refine wv h (r_pickA h rfl rfl rfl) rfl ?_
  clear h a w; intro a w h
  refine wv h (r_assign h rfl) rfl ?_
  clear h a w; intro a w h
  refine wnil (c_then ?_)
  refine c_ret ?_
  exact ret1 h rfl rfl ⟨(), rfl, h.2.tail.tail.tail, trivial⟩
theorem law16_PackOne (s w : World) (v0 : Value) (p : List UInt8) (F : List HItem) (hT : HasParts F) (hF : HasFirst F) (hC : HasLines F) (hv0 : ViewsB F v0 p) (hs : Sat s w F) :
    Calls P n_law16_PackOne #[v0] w (Ret s (fun _ : Unit => .bool true) (fun _ => F) (fun _ => True)) := by
  obtain ⟨A, cap, hsv, _⟩ := hv0.shape hs
  obtain ⟨x, hx⟩ : ∃ x : SlV, x = ⟨A, p.length, cap, p⟩ := ⟨_, rfl⟩
  have hxv : x.v = v0 := by rw [hx, hsv]
  have hxp : x.p = p := by rw [hx]
  have hone0 : v0.oneCell' = true := by rw [hsv]; rfl
  refine enter K.fn_law16_PackOne rfl K.nt_law16_PackOne rfl hs ?_
  clear hs w; intro a w h
  refine c_seq (c_region ?_)
  refine wv h (r_assign h rfl) rfl ?_
  clear h a w; intro a w h
  refine wnil (c_then ?_)
  refine c_seq ?_
  refine c_seq (c_region ?_)
  refine wl rfl (op_call h rfl K.go_law16_awake (law16_awake s _ _ hT hF hC h.2) rfl ?_)
  clear h a w; intro z6 a w hz6 h
  (simp only [List.set_cons_zero, List.set_cons_succ] at h)
  refine wv h (r_not h rfl) rfl ?_
  clear h a w; intro a w h
  refine wv h (r_move h rfl) rfl ?_
  clear h a w; intro a w h
  refine wvG h (by exact .f rfl) (fun hg => by (have hg2 := hg; (simp only [Bool.and_eq_true, Bool.or_eq_true, Bool.not_eq_true', decide_eq_true_eq, decide_eq_false_iff_not] at hg2)); exact r_move h rfl) rfl ?_
  clear h a w; intro a w h
  refine wvG h (by exact .f rfl) (fun hg => by (simp only [↓gval_on hg, ↓gval_and hg] at h); (have hg2 := hg; (simp only [Bool.and_eq_true, Bool.or_eq_true, Bool.not_eq_true', decide_eq_true_eq, decide_eq_false_iff_not] at hg2)); exact r_lenB h rfl K.u_S_uint8 (by assumption)) rfl ?_
  clear h a w; intro a w h
  refine wvG h (by exact .f rfl) (fun hg => by (simp only [↓gval_on hg, ↓gval_and hg] at h); (have hg2 := hg; (simp only [Bool.and_eq_true, Bool.or_eq_true, Bool.not_eq_true', decide_eq_true_eq, decide_eq_false_iff_not] at hg2)); exact r_bin h rfl rfl (B.eql_int)) rfl ?_
  clear h a w; intro a w h
  refine wv h (r_pickO h rfl rfl rfl) rfl ?_
  clear h a w; intro a w h
  refine wv h (r_move h rfl) rfl ?_
  clear h a w; intro a w h
  refine wvG h (by exact .f rfl) (fun hg => by (have hg2 := hg; (simp only [Bool.and_eq_true, Bool.or_eq_true, Bool.not_eq_true', decide_eq_true_eq, decide_eq_false_iff_not] at hg2)); exact r_move h rfl) rfl ?_
  clear h a w; intro a w h
  refine wvG h (by exact .f rfl) (fun hg => by (simp only [↓gval_on hg, ↓gval_and hg] at h); (have hg2 := hg; (simp only [Bool.and_eq_true, Bool.or_eq_true, Bool.not_eq_true', decide_eq_true_eq, decide_eq_false_iff_not] at hg2)); exact r_lenB h rfl K.u_S_uint8 (by assumption)) rfl ?_
  clear h a w; intro a w h
  refine wvG h (by exact .f rfl) (fun hg => by (simp only [↓gval_on hg, ↓gval_and hg] at h); (have hg2 := hg; (simp only [Bool.and_eq_true, Bool.or_eq_true, Bool.not_eq_true', decide_eq_true_eq, decide_eq_false_iff_not] at hg2)); exact r_bin h rfl rfl (B.gtr_int)) rfl ?_
  clear h a w; intro a w h
  refine wv h (r_pickO h rfl rfl rfl) rfl ?_
  clear h a w; intro a w h
  refine wnil (c_then ?_)
  refine c_condP (p := p.length = 0 ∨ 300 < p.length) h rfl (by simp only [Bool.not_true, Bool.false_or, Bool.or_eq_true, decide_eq_true_eq]; omega) (fun ht1 => ?_) (fun ht1 => ?_)
  ·
   as_aux_lemma =>
    refine c_seq (c_region ?_)
    refine wl rfl (op_call h rfl K.go_law16_awake (law16_awake s _ _ hT hF hC h.2) rfl ?_)
    clear h a w; intro z18 a w hz18 h
    refine wv h (r_assign h rfl) rfl ?_
    clear h a w; intro a w h
    refine wnil (c_then ?_)
    refine c_ret ?_
    exact ret1 h rfl rfl ⟨(), rfl, h.2, trivial⟩
  ·
   refine c_skip ?_
   refine c_then ?_
   refine c_seq (c_region ?_)
   refine wl rfl (op_buildSlice h K.u_S_uint8 K.sz_uint8 K.z_uint8 rfl rfl rfl rfl rfl (by simp [Value.cells, bv, w32, w64, sv]) rfl ?_)
   clear h a w; intro b19 a w h
   refine wl rfl (op_lit h rfl K.u_S_uint8 K.u_uint8 0 rfl rfl ?_)
   clear h a w; intro a w h
   (simp only [List.set_cons_zero, List.set_cons_succ] at h)
   replace h := h.toOwnb [80, 49, 129] (NF.past _) rfl rfl
   refine wv h (r_move h rfl) rfl ?_
   clear h a w; intro a w h
   refine wv h (r_lenB h rfl K.u_S_uint8 (by exact ViewsB.of_drop 1 (by assumption))) rfl ?_
   clear h a w; intro a w h
   refine wv h (r_bin h rfl rfl (B.mul_i64 (by omega) (by omega))) rfl ?_
   clear h a w; intro a w h
   rw [show (2 * (p.length : Int)) = ((2 * p.length : Nat) : Int) by omega] at h
   have hn1 := numN_len9 (2 * p.length) (by omega)
   refine wl rfl (op_call h rfl K.go_ref01_Num (ref_num s _ (2 * p.length) _ (by omega) h.2) rfl ?_)
   clear h a w; intro v24 a w hz24 h
   refine wv h (r_move h rfl) rfl ?_
   clear h a w; intro a w h
   refine wl rfl (op_appendbs h rfl rfl K.u_S_uint8 K.sz_uint8 K.z_uint8 rfl rfl 0 rfl (Src.bytes K.u_S_uint8 (by exact ViewsB.of_drop 2 (by assumption)) h.2) (by omega) rfl ?_)
   clear h a w; intro v26 a w h
   (simp only [List.set_cons_zero, List.set_cons_succ] at h)
   refine wl rfl (op_appendbs h rfl rfl K.u_S_uint8 K.sz_uint8 K.z_uint8 rfl rfl 1 rfl (Src.bytes K.u_S_uint8 (by exact ViewsB.own 0 rfl) h.2) (by (simp; omega)) rfl ?_)
   clear h a w; intro v27 a w h
   (simp only [List.set_cons_zero, List.set_cons_succ] at h)
   obtain ⟨Q, hQ⟩ : ∃ Q, Q = [80, 49, 129] ++ (numN (2 * p.length) ++ p) := ⟨_, rfl⟩
   have hQl : Q.length ≤ 400 := by rw [hQ]; simp only [List.length_append, List.length_cons, List.length_nil]; omega
   rw [← hQ] at h
   refine wv h (r_assign h rfl) rfl ?_
   clear h a w; intro a w h
   refine wnil (c_then ?_)
   refine c_seq (c_region ?_)
   refine wv h (r_move h rfl) rfl ?_
   clear h a w; intro a w h
   refine wv h (r_move h rfl) rfl ?_
   clear h a w; intro a w h
   refine wl rfl (op_call h rfl K.go_ref01_Sum (ref_sum s _ v27 Q _ (by omega) (by exact Views.own 1 rfl) h.2) rfl ?_)
   clear h a w; intro z30 a w hz30 h
   refine wl rfl (op_call h rfl K.go_ref01_Four (ref_four s _ (crcN Q) _ h.2) rfl ?_)
   clear h a w; intro v31 a w hz31 h
   have hf4 : (fourN (crcN Q)).length = 4 := rfl
   refine wl rfl (op_appendbs h rfl rfl K.u_S_uint8 K.sz_uint8 K.z_uint8 rfl rfl 2 rfl (Src.bytes K.u_S_uint8 (by exact ViewsB.own 0 rfl) h.2) (by omega) rfl ?_)
   clear h a w; intro v32 a w h
   (simp only [List.set_cons_zero, List.set_cons_succ] at h)
   have hQ2 : Q = headP ([p] : List (List UInt8)).length ++ tailP none 0 [p] := by rw [hQ]; simp [headP, tailP, numN1]
   have he : encP (bytesI (srtd [x])) = some (Q ++ fourN (crcN Q)) := by
     rw [srtd_one, hxp, encP_tail (fun q hq => by simp only [List.mem_singleton] at hq; subst hq; unfold OkP; omega) (by simp), ← hQ2]; rfl
   refine wv h (r_assign h rfl) rfl ?_
   clear h a w; intro a w h
   refine wnil (c_then ?_)
   refine c_seq (c_region ?_)
   refine wv h (r_move h rfl) rfl ?_
   clear h a w; intro a w h
   refine wl rfl (op_buildO h K.u_S_S_uint8 K.sz_S_uint8 K.z_S_uint8 rfl rfl rfl rfl (by simp only [List.mem_cons, List.not_mem_nil, or_false, forall_eq_or_imp, forall_eq]; (repeat' apply And.intro) <;> assumption) rfl ?_)
   clear h a w; intro b35 a w h
   refine wl rfl (op_call h rfl K.go_pack_Encode (pack_Encode s _ _ [x] _ ((((hT.cons _).cons _).cons _).cons _) ((((hF.cons _).cons _).cons _).cons _) ((((hC.cons _).cons _).cons _).cons _) (by rw [flatS]; simp only [List.map_cons, List.map_nil, hxv]; exact Views.blk 0 rfl rfl rfl rfl rfl) (fun y hy => by simp only [List.mem_singleton] at hy; subst hy; rw [hxv, hxp]; exact ⟨(((hv0.cons _).cons _).cons _).cons _, by omega⟩) (by simp) h.2) rfl ?_)
   clear h a w; intro v36 a w hz36 h
   rw [he] at h
   simp only [Option.isSome_some, Option.getD_some, if_true] at h
   refine wv h (r_move h rfl) rfl ?_
   clear h a w; intro a w h
   refine wv h (r_extractN h rfl rfl) rfl ?_
   clear h a w; intro a w h
   refine wv h (r_extractN h rfl rfl) rfl ?_
   clear h a w; intro a w h
   refine wv h (r_assign h rfl) rfl ?_
   clear h a w; intro a w h
   refine wv h (r_assign h rfl) rfl ?_
   clear h a w; intro a w h
   refine wnil (c_then ?_)
   refine c_seq (c_region ?_)
   refine wv h (r_move h rfl) rfl ?_
   clear h a w; intro a w h
   refine wv h (r_bin h rfl rfl (B.eql_int)) rfl ?_
   clear h a w; intro a w h
   refine wv h (r_move h rfl) rfl ?_
   clear h a w; intro a w h
   refine wvG h (by exact .t rfl) (fun hg => by (simp only [↓gval_on hg, ↓gval_and hg] at h); (have hg2 := hg; (simp only [Bool.and_eq_true, Bool.or_eq_true, Bool.not_eq_true', decide_eq_true_eq, decide_eq_false_iff_not] at hg2)); exact r_move h rfl) rfl ?_
   clear h a w; intro a w h
   refine wvG h (by exact .t rfl) (fun hg => by (simp only [↓gval_on hg, ↓gval_and hg] at h); (have hg2 := hg; (simp only [Bool.and_eq_true, Bool.or_eq_true, Bool.not_eq_true', decide_eq_true_eq, decide_eq_false_iff_not] at hg2)); exact r_b2sb h rfl K.u_S_uint8 K.u_uint8 K.u_string (by exact ViewsB.own 0 rfl)) rfl ?_
   clear h a w; intro a w h
   refine wvG h (by exact .t rfl) (fun hg => by (simp only [↓gval_on hg, ↓gval_and hg] at h); (have hg2 := hg; (simp only [Bool.and_eq_true, Bool.or_eq_true, Bool.not_eq_true', decide_eq_true_eq, decide_eq_false_iff_not] at hg2)); exact r_move h rfl) rfl ?_
   clear h a w; intro a w h
   refine wvG h (by exact .t rfl) (fun hg => by (simp only [↓gval_on hg, ↓gval_and hg] at h); (have hg2 := hg; (simp only [Bool.and_eq_true, Bool.or_eq_true, Bool.not_eq_true', decide_eq_true_eq, decide_eq_false_iff_not] at hg2)); exact r_b2sb h rfl K.u_S_uint8 K.u_uint8 K.u_string (by exact ViewsB.own 4 rfl)) rfl ?_
   clear h a w; intro a w h
   refine wvG h (by exact .t rfl) (fun hg => by (simp only [↓gval_on hg, ↓gval_and hg] at h); (have hg2 := hg; (simp only [Bool.and_eq_true, Bool.or_eq_true, Bool.not_eq_true', decide_eq_true_eq, decide_eq_false_iff_not] at hg2)); exact r_streq h rfl rfl) rfl ?_
   clear h a w; intro a w h
   refine wv h (r_pickA h rfl rfl rfl) rfl ?_
   clear h a w; intro a w h
   refine wv h (r_assign h rfl) rfl ?_
   clear h a w; intro a w h
   refine wnil (c_then ?_)
   refine c_ret ?_
   exact ret1 h rfl rfl ⟨(), by simp, h.2.drop 5, trivial⟩
end Go.Proofs.K

/- Objects by their keys, each once: one row alone is strictly sorted and has of each key the first. -/
namespace Go.Sl
/-- strictly sorted -/
def SS (l : List ItV) : Prop := l.Pairwise fun a b => lt a b = true
/-- of each key the same is first -/
def FK (l m : List ItV) : Prop := ∀ k : Key, l.find? (fun a => decide (a.k = k)) = m.find? (fun a => decide (a.k = k))
theorem FK.symm {l m : List ItV} (h : FK l m) : FK m l := fun k => (h k).symm
theorem FK.trans {l m n : List ItV} (h : FK l m) (h2 : FK m n) : FK l n := fun k => (h k).trans (h2 k)
theorem Stb.fk {l m : List ItV} (h : Stb l m) : FK l m := fun k => by rw [← List.head?_filter, ← List.head?_filter, h k]
theorem lt_key {a b c d : ItV} (h1 : a.k = c.k) (h2 : b.k = d.k) : lt a b = lt c d := by unfold lt; rw [h1, h2]
theorem lt_tr {a b c : ItV} (h1 : lt a b = true) (h2 : lt b c = true) : lt a c = true := lt_le h1 (lt_asym h2)
theorem FK.uniq : ∀ {l m : List ItV}, SS l → SS m → FK l m → l = m
  | [], [], _, _, _ => rfl
  | [], b :: m, _, _, h => by have := h b.k; simp at this
  | a :: l, [], _, _, h => by have := h a.k; simp at this
  | a :: l, b :: m, hl, hm, h => by
    obtain ⟨hl1, hl2⟩ := List.pairwise_cons.1 hl
    obtain ⟨hm1, hm2⟩ := List.pairwise_cons.1 hm
    have ha : a ∈ b :: m := List.mem_of_find?_eq_some ((h a.k).symm.trans (by simp))
    have hb : b ∈ a :: l := List.mem_of_find?_eq_some ((h b.k).trans (by simp))
    have e : a = b := by
      rcases List.mem_cons.1 ha with e | e
      · exact e
      · rcases List.mem_cons.1 hb with e2 | e2
        · exact e2.symm
        · have q := lt_asym (hm1 a e)
          rw [hl1 b e2] at q; cases q
    subst e
    have hn : ∀ (r : List ItV), (∀ y ∈ r, lt a y = true) → r.find? (fun y => decide (y.k = a.k)) = none := fun r hr => by
      rw [List.find?_eq_none]
      intro y hy e
      exact lt_ne (hr y hy) (of_decide_eq_true e).symm
    rw [FK.uniq hl2 hm2 (fun k => by
      by_cases e : a.k = k
      · subst e; rw [hn l hl1, hn m hm1]
      · have := h k
        rw [List.find?_cons_of_neg (by simpa using e), List.find?_cons_of_neg (by simpa using e)] at this
        exact this)]
theorem find_yes {a : ItV} {l : List ItV} {k : Key} (h : a.k = k) : (a :: l).find? (fun a => decide (a.k = k)) = some a := List.find?_cons_of_pos (p := fun a : ItV => decide (a.k = k)) (decide_eq_true h)
theorem find_no {a : ItV} {l : List ItV} {k : Key} (h : a.k ≠ k) : (a :: l).find? (fun a => decide (a.k = k)) = l.find? (fun a => decide (a.k = k)) := List.find?_cons_of_neg (p := fun a : ItV => decide (a.k = k)) (fun q => h (of_decide_eq_true q))
theorem compL_fk : ∀ (l : List ItV) (p : ItV), FK (p :: compL p l) (p :: l)
  | [], _ => fun _ => rfl
  | x :: l, p => fun k => by
    have ih := compL_fk l x k
    by_cases e : p.k = k
    · rw [List.find?_cons_of_pos (by simpa using e), List.find?_cons_of_pos (by simpa using e)]
    · rw [List.find?_cons_of_neg (by simpa using e), List.find?_cons_of_neg (by simpa using e), compL]
      split
      · rename_i e2
        have e3 : ¬ x.k = k := fun q => e (e2.symm.trans q)
        rw [List.find?_cons_of_neg (by simpa using e3), List.find?_cons_of_neg (by simpa using e3)] at ih
        rw [List.find?_cons_of_neg (by simpa using e3), ih]
      · exact ih
theorem comp_fk : ∀ (l : List ItV), FK (comp l) l
  | [] => fun _ => rfl
  | p :: l => compL_fk l p
theorem SS.head {p q : ItV} {l : List ItV} (h : SS (p :: l)) (e : q.k = p.k) : SS (q :: l) := by
  obtain ⟨h1, h2⟩ := List.pairwise_cons.1 h
  exact List.pairwise_cons.2 ⟨fun y hy => by rw [lt_key e rfl]; exact h1 y hy, h2⟩
theorem compL_ss : ∀ (l : List ItV) (p : ItV), Srt (p :: l) → SS (p :: compL p l)
  | [], p, _ => by unfold SS; simp [compL]
  | x :: l, p, h => by
    obtain ⟨h1, h2⟩ := List.pairwise_cons.1 h
    have ih := compL_ss l x h2
    rw [compL]
    split
    · rename_i e
      exact ih.head e.symm
    · rename_i e
      have hx : lt p x = true := by
        cases q : lt p x with
        | true => rfl
        | false => exact absurd (lt_tri q (h1 x (by simp))).symm e
      refine List.pairwise_cons.2 ⟨fun y hy => ?_, ih⟩
      rcases List.mem_cons.1 hy with rfl | hy
      · exact hx
      · exact lt_tr hx ((List.pairwise_cons.1 ih).1 y hy)
theorem comp_ss : ∀ (l : List ItV), Srt l → SS (comp l)
  | [], _ => by unfold SS; simp [comp]
  | p :: l, h => compL_ss l p h
theorem srtd_ss (xs : List SlV) : SS (srtd xs) := comp_ss _ (isort_srt _)
theorem srtd_fk (xs : List SlV) : FK (srtd xs) (xs.map itm) := (comp_fk _).trans (isort_stb _).symm.fk
theorem srtd_is {xs : List SlV} {l : List ItV} (h1 : SS l) (h2 : FK l (xs.map itm)) : l = srtd xs := FK.uniq h1 (srtd_ss xs) (h2.trans (srtd_fk xs).symm)
/-- what they hold, sorted -/
def srtx (xs : List SlV) : List SlV := (srtd xs).map (·.x)
theorem srtx_itm (xs : List SlV) : (srtx xs).map itm = srtd xs := by
  unfold srtx
  rw [List.map_map]
  conv => rhs; rw [← List.map_id (srtd xs)]
  refine List.map_congr_left (fun i hi => ?_)
  obtain ⟨_, e⟩ := srtd_mem hi
  show (⟨keyO i.x.p, i.x⟩ : ItV) = i
  rw [← e]
theorem srtx_ss (xs : List SlV) : SS ((srtx xs).map itm) := by rw [srtx_itm]; exact srtd_ss xs
theorem srtx_p (xs : List SlV) : (srtx xs).map (·.p) = bytesI (srtd xs) := by unfold srtx bytesI; rw [List.map_map]; rfl
theorem srtx_mem {xs : List SlV} {x : SlV} (h : x ∈ srtx xs) : x ∈ xs := by
  obtain ⟨i, hi, rfl⟩ := List.mem_map.1 h
  exact (srtd_mem hi).1
theorem srtx_len (xs : List SlV) : (srtx xs).length ≤ xs.length := by unfold srtx; rw [List.length_map]; exact srtd_len xs
/-- what is sorted stays -/
theorem ss_like : ∀ (l m : List SlV), l.map (·.p) = m.map (·.p) → SS (m.map itm) → SS (l.map itm)
  | [], _, _, _ => by unfold SS; simp
  | x :: l, [], h, _ => by simp at h
  | x :: l, y :: m, h, hm => by
    simp only [List.map_cons, List.cons.injEq] at h
    obtain ⟨h1, h2⟩ := List.pairwise_cons.1 hm
    refine List.pairwise_cons.2 ⟨fun z hz => ?_, ss_like l m h.2 h2⟩
    obtain ⟨u, hu, rfl⟩ := List.mem_map.1 hz
    have : u.p ∈ m.map (·.p) := by rw [← h.2]; exact List.mem_map_of_mem hu
    obtain ⟨t, ht, e⟩ := List.mem_map.1 this
    have := h1 (itm t) (List.mem_map_of_mem ht)
    rw [lt_key (c := itm y) (d := itm t) (by simp [itm, h.1]) (by simp [itm, e])]
    exact this
theorem srtd_again {xs ys : List SlV} (h : ys.map (·.p) = bytesI (srtd xs)) : bytesI (srtd ys) = bytesI (srtd xs) := by
  have h1 : SS (ys.map itm) := ss_like ys (srtx xs) (by rw [h, srtx_p]) (srtx_ss xs)
  rw [← srtd_is (xs := ys) h1 (fun _ => rfl), ← h]
  unfold bytesI; rw [List.map_map]; rfl
/-- is there one of this key -/
def hasK (O : List SlV) (k : Key) : Bool := O.any fun y => decide (keyO y.p = k)
theorem srtx_there {xs : List SlV} {x : SlV} (h : hasK (srtx xs) (keyO x.p) = true) : srtx (xs ++ [x]) = srtx xs := by
  unfold srtx
  rw [← srtd_is (xs := xs ++ [x]) (srtd_ss xs) ((srtd_fk xs).trans (fun k => ?_))]
  rw [List.map_append, List.find?_append]
  cases q : (xs.map itm).find? (fun a => decide (a.k = k)) with
  | some y => rfl
  | none =>
    have ne : ¬ decide ((itm x).k = k) = true := by
      intro e
      have e : keyO x.p = k := of_decide_eq_true e
      obtain ⟨y, hy, e2⟩ := List.any_eq_true.1 h
      rw [List.find?_eq_none] at q
      exact q (itm y) (List.mem_map_of_mem (srtx_mem hy)) (by rw [e] at e2; exact e2)
    rw [List.map_cons, List.map_nil, find_no (fun e => ne (decide_eq_true e))]; rfl
theorem srtx_put {xs : List SlV} {x : SlV} {at_ : Nat} (h : hasK (srtx xs) (keyO x.p) = false) (h1 : ∀ i y, i < at_ → (srtx xs)[i]? = some y → lt (itm y) (itm x) = true) (h2 : ∀ i y, at_ ≤ i → (srtx xs)[i]? = some y → lt (itm y) (itm x) = false) :
    srtx (xs ++ [x]) = (srtx xs).take at_ ++ x :: (srtx xs).drop at_ := by
  have hnk : ∀ y ∈ srtx xs, keyO y.p ≠ keyO x.p := fun y hy e => by
    have := List.any_eq_false.1 h y hy
    exact this (by simp [e])
  have key : ((srtx xs).take at_ ++ x :: (srtx xs).drop at_).map itm = srtd (xs ++ [x]) := by
    refine srtd_is ?_ (fun k => ?_)
    · rw [List.map_append, List.map_cons]
      have hs := srtx_ss xs
      rw [← List.take_append_drop at_ (srtx xs), List.map_append] at hs
      obtain ⟨s1, s2, s3⟩ := List.pairwise_append.1 hs
      refine List.pairwise_append.2 ⟨s1, List.pairwise_cons.2 ⟨fun z hz => ?_, s2⟩, fun y hy z hz => ?_⟩
      · obtain ⟨u, hu, rfl⟩ := List.mem_map.1 hz
        obtain ⟨i, hi⟩ := List.mem_iff_getElem?.1 hu
        rw [List.getElem?_drop] at hi
        have q := h2 _ u (Nat.le_add_right _ _) hi
        cases q2 : lt (itm x) (itm u) with
        | true => rfl
        | false => exact absurd (lt_tri q q2) (hnk u (List.mem_of_getElem? hi))
      · rcases List.mem_cons.1 hz with rfl | hz
        · obtain ⟨u, hu, rfl⟩ := List.mem_map.1 hy
          obtain ⟨i, hi⟩ := List.mem_iff_getElem?.1 hu
          rw [List.getElem?_take] at hi
          split at hi
          · exact h1 i u (by assumption) hi
          · cases hi
        · exact s3 y hy z hz
    · rw [List.map_append, List.map_append, List.map_cons, List.find?_append, List.find?_append]
      have hf := srtd_fk xs k
      rw [← srtx_itm] at hf
      conv at hf => lhs; rw [← List.take_append_drop at_ (srtx xs), List.map_append, List.find?_append]
      by_cases e : keyO x.p = k
      · have hno : ∀ (l : List SlV), (∀ y ∈ l, y ∈ srtx xs) → (l.map itm).find? (fun a => decide (a.k = k)) = none := fun l hl => by
          rw [List.find?_eq_none]
          intro z hz
          obtain ⟨u, hu, rfl⟩ := List.mem_map.1 hz
          have := hnk u (hl u hu)
          rw [e] at this
          exact fun q => this (of_decide_eq_true q)
        have n1 := hno ((srtx xs).take at_) (fun y hy => List.mem_of_mem_take hy)
        have n2 := hno ((srtx xs).drop at_) (fun y hy => List.mem_of_mem_drop hy)
        rw [← hf, n1, n2, List.map_cons, find_yes (show (itm x).k = k from e), find_yes (show (itm x).k = k from e)]; rfl
      · rw [find_no (show (itm x).k ≠ k from e), hf, List.map_cons, find_no (show (itm x).k ≠ k from e)]; simp
  have := congrArg (List.map (·.x)) key
  rw [List.map_map] at this
  unfold srtx at this ⊢
  rw [← this]
  exact List.map_id _
/-- the places of those that are less, as a loop finds them -/
structure AtI (O : List SlV) (x : SlV) (j at_ : Nat) : Prop where
  le : at_ ≤ j
  less : ∀ i y, i < at_ → O[i]? = some y → lt (itm y) (itm x) = true
  more : ∀ i y, at_ ≤ i → i < j → O[i]? = some y → lt (itm y) (itm x) = false
theorem AtI.zero (O : List SlV) (x : SlV) : AtI O x 0 0 := ⟨Nat.le_refl _, fun i y h => by omega, fun i y h h' => by omega⟩
theorem AtI.yes {O : List SlV} {x y : SlV} {j at_ : Nat} (h : AtI O x j at_) (hs : SS (O.map itm)) (hy : O[j]? = some y) (hl : lt (itm y) (itm x) = true) : AtI O x (j + 1) (j + 1) :=
  ⟨Nat.le_refl _, fun i z hi hz => by
    rcases Nat.lt_or_ge i j with q | q
    · have hj : j < (O.map itm).length := by rw [List.length_map]; exact (List.getElem?_eq_some_iff.1 hy).1
      have := List.pairwise_iff_getElem.1 hs i j (by omega) hj q
      have e1 : (O.map itm)[i]? = some (itm z) := by rw [List.getElem?_map, hz]; rfl
      have e2 : (O.map itm)[j]? = some (itm y) := by rw [List.getElem?_map, hy]; rfl
      rw [(List.getElem?_eq_some_iff.1 e1).2, (List.getElem?_eq_some_iff.1 e2).2] at this
      exact lt_tr this hl
    · obtain rfl : i = j := by omega
      rw [hy] at hz; cases hz; exact hl, fun i z h1 h2 => by omega⟩
theorem AtI.no {O : List SlV} {x y : SlV} {j at_ : Nat} (h : AtI O x j at_) (hy : O[j]? = some y) (hl : lt (itm y) (itm x) = false) : AtI O x (j + 1) at_ :=
  ⟨by have := h.le; omega, h.less, fun i z h1 h2 hz => by
    rcases Nat.lt_or_ge i j with q | q
    · exact h.more i z h1 q hz
    · obtain rfl : i = j := by omega
      rw [hy] at hz; cases hz; exact hl⟩
end Go.Sl

/- The contract of the document's own sum of bytes. -/
namespace Go.Proofs.K
open Go.Sl

theorem ref_Stamp (s w : World) (v : Value) (p : List UInt8) (F : List HItem) (hv : ViewsB F v p) (hp : p.length ≤ 2147483648) (hs : Sat s w F) :
    Calls P n_ref01_Stamp #[v] w (Ret s (fun _ : Unit => .agg (arr8 (sha p))) (fun _ => F) (fun _ => True)) := by
  refine enter K.fn_ref01_Stamp rfl K.nt_ref01_Stamp rfl hs ?_
  clear hs w; intro a w h
  refine c_seq (c_region ?_)
  refine wl rfl (op_alloc h K.z_A32_uint8 rfl ?_)
  clear h a w; intro b2 a w h
  rw [show (Value.agg (Array.replicate 32 (Value.int .u8 0))).cells = arr8 (List.replicate 32 0) from (arr8_zero 32).symm] at h
  refine wnil (c_then ?_)
  refine c_seq (c_region ?_)
  refine wl rfl (op_buildSlice h K.u_S_uint32 K.sz_uint32 K.z_uint32 rfl rfl rfl rfl rfl (by simp [Value.cells, bv, w32, w64, sv]) rfl ?_)
  clear h a w; intro b31 a w h
  obtain ⟨vk, hvk⟩ : ∃ vk, vk = Value.slice (some ⟨b31, 0, none⟩) 64 64 := ⟨_, rfl⟩
  replace h : St 284 s a w _ (OwnL w32 (.slice (some ⟨b31, 0, none⟩) 64 64) shaK :: Blk b2 (.cells (arr8 (List.replicate 32 0)) t_A32_uint8) :: F) := h.toOwnL shaK (NF.zero _) (by kernel_rfl) rfl rfl
  rw [← hvk] at h
  clear hvk
  refine wv h (r_assign h rfl) rfl ?_
  clear h a w; intro a w h
  refine wnil (c_then ?_)
  refine c_seq (c_region ?_)
  refine wl rfl (op_buildSlice h K.u_S_uint32 K.sz_uint32 K.z_uint32 rfl rfl rfl rfl rfl (by simp [Value.cells, bv, w32, w64, sv]) rfl ?_)
  clear h a w; intro b32 a w h
  obtain ⟨vh, hvh⟩ : ∃ vh, vh = Value.slice (some ⟨b32, 0, none⟩) 8 8 := ⟨_, rfl⟩
  replace h : St 284 s a w _ (OwnL w32 (.slice (some ⟨b32, 0, none⟩) 8 8) sha0.lst :: OwnL w32 vk shaK :: Blk b2 (.cells (arr8 (List.replicate 32 0)) t_A32_uint8) :: F) := h.toOwnL sha0.lst (NF.zero _) (by kernel_rfl) rfl rfl
  rw [← hvh] at h
  clear hvh
  generalize hGk : (OwnL w32 vk shaK :: Blk b2 (.cells (arr8 (List.replicate 32 0)) t_A32_uint8) :: F) = Gk at h
  have hvp : ViewsB Gk v p := by rw [← hGk]; exact (hv.cons _).cons _
  have hvK : Views Gk 1 vk 64 (shaK.map w32) := by rw [← hGk]; exact Views.own 0 rfl
  generalize hG : (OwnL w32 vh sha0.lst :: Gk) = G at h
  have hvG : ViewsB G v p := by rw [← hG]; exact hvp.cons _
  refine wv h (r_assign h rfl) rfl ?_
  clear h a w; intro a w h
  refine wnil (c_then ?_)
  refine c_seq (c_region ?_)
  refine wv h (r_move h rfl) rfl ?_
  clear h a w; intro a w h
  refine wl rfl (op_appendnbs h rfl rfl K.u_S_uint8 K.sz_uint8 K.z_uint8 rfl rfl (Src.bytes K.u_S_uint8 (by assumption) h.2) (by omega) rfl ?_)
  clear h a w; intro v34 a w h
  refine wl rfl (op_buildSlice h K.u_S_uint8 K.sz_uint8 K.z_uint8 rfl rfl rfl rfl rfl (by simp [Value.cells, bv, w32, w64, sv]) rfl ?_)
  clear h a w; intro b35 a w h
  refine wl rfl (op_appendb (u := 128) h rfl rfl K.u_S_uint8 K.sz_uint8 K.z_uint8 rfl rfl 0 rfl (by omega) rfl ?_)
  clear h a w; intro v36 a w h
  (simp only [List.set_cons_zero, List.set_cons_succ] at h)
  refine wv h (r_assign h rfl) rfl ?_
  clear h a w; intro a w h
  refine wnil (c_then ?_)
  refine c_seq ?_
  refine c_block ?_
  refine c_loopX h (X := Nat × Value) (fun x => [(0, v), (2, .pointer (some ⟨b2, 0, none⟩)), (3, vk), (4, vh), (5, x.2)])
    (fun x => OwnB x.2 (p ++ [128] ++ List.replicate x.1 0) :: G) (fun x => x.1 ≤ shaZeros p.length) (fun x => shaZeros p.length - x.1) (0, v36) ?_ (Nat.zero_le _) ?_
  · have e : p ++ [128] = p ++ [128] ++ List.replicate 0 0 := by simp
    rw [e] at h
    exact h.keep [0, 2, 3, 4, 5]
  clear h a w; intro x a w hx h
  obtain ⟨j, va⟩ := x
  replace hx : j ≤ shaZeros p.length := hx
  have hz : shaZeros p.length ≤ 63 := by unfold shaZeros; omega
  dsimp only at h
  as_aux_lemma =>
   refine c_seq ?_
   refine c_seq (c_region ?_)
   refine wv h (r_move h rfl) rfl ?_
   clear h a w; intro a w h
   refine wv h (r_lenB h rfl K.u_S_uint8 (by exact ViewsB.own 0 rfl)) rfl ?_
   clear h a w; intro a w h
   refine wv h (r_bin h rfl rfl (B.rem_i64 (by omega) (by omega))) rfl ?_
   clear h a w; intro a w h
   refine wv h (r_bin h rfl rfl (B.neq_int)) rfl ?_
   clear h a w; intro a w h
   refine wnil (c_then ?_)
   refine c_condD h rfl (fun ht1 => ?_) (fun ht1 => ?_)
   ·
    simp at ht1
    have hj : j < shaZeros p.length := by unfold shaZeros at hx ⊢; omega
    refine c_skip ?_
    refine c_then ?_
    refine c_block ?_
    refine c_region ?_
    refine wv h (r_move h rfl) rfl ?_
    clear h a w; intro a w h
    refine wl rfl (op_buildSlice h K.u_S_uint8 K.sz_uint8 K.z_uint8 rfl rfl rfl rfl rfl (by simp [Value.cells, bv, w32, w64, sv]) rfl ?_)
    clear h a w; intro b42 a w h
    refine wl rfl (op_appendb (u := 0) h rfl rfl K.u_S_uint8 K.sz_uint8 K.z_uint8 rfl rfl 0 rfl (by (simp; omega)) rfl ?_)
    clear h a w; intro v43 a w h
    (simp only [List.set_cons_zero, List.set_cons_succ] at h)
    refine wv h (r_assign h rfl) rfl ?_
    clear h a w; intro a w h
    rw [List.append_assoc _ _ [0], show List.replicate j (0 : UInt8) ++ [0] = List.replicate (j + 1) 0 from List.replicate_succ'.symm] at h
    refine wnil ?_
    refine b_normal ?_
    exact ⟨(j + 1, v43), h.keep [0, 2, 3, 4, 5], hj, by show shaZeros p.length - (j + 1) < shaZeros p.length - j; omega⟩
   ·
    simp at ht1
    obtain rfl : j = shaZeros p.length := by unfold shaZeros at hx ⊢; omega
    refine c_exit ?_
    refine e_then ?_
    refine e_then ?_
    refine e_here ?_
    refine c_then ?_
    refine c_seq (c_region ?_)
    refine wv h (r_move h rfl) rfl ?_
    clear h a w; intro a w h
    refine wv h (r_lenB h rfl K.u_S_uint8 (by exact ViewsB.cons (by assumption) _)) rfl ?_
    clear h a w; intro a w h
    refine wv h (r_conv h rfl K.u_int K.u_uint64 (C.u64_i64) ) rfl ?_
    clear h a w; intro a w h
    refine wv h (r_bin h rfl rfl (B.mul_u64 (y := 8))) rfl ?_
    clear h a w; intro a w h
    refine wv h (r_assign h rfl) rfl ?_
    clear h a w; intro a w h
    have hn : (UInt64.ofInt (p.length : Int) * 8).toNat = p.length * 8 := by
      have e : (UInt64.ofInt (p.length : Int)).toNat = p.length := by simp [UInt64.ofInt, UInt64.toNat_ofNat']; omega
      rw [UInt64.toNat_mul, e]
      show p.length * 8 % 2 ^ 64 = _
      omega
    generalize UInt64.ofInt (p.length : Int) * 8 = n64 at h hn
    refine wnil (c_then ?_)
    refine c_seq ?_
    refine c_seq (c_region ?_)
    refine wv h (r_assign h rfl) rfl ?_
    clear h a w; intro a w h
    refine wnil (c_then ?_)
    refine c_block ?_
    refine c_loopX h (X := Nat × Value) (fun x => [(2, .pointer (some ⟨b2, 0, none⟩)), (3, vk), (4, vh), (5, x.2), (6, w64 n64), (7, .int .i64 (x.1 : Int))])
      (fun x => OwnB x.2 (p ++ [128] ++ List.replicate (shaZeros p.length) 0 ++ shaTail p.length x.1) :: G) (fun x => x.1 ≤ 8) (fun x => 8 - x.1) (0, va) ?_ (Nat.zero_le _) ?_
    · have e : p ++ [128] ++ List.replicate (shaZeros p.length) 0 = p ++ [128] ++ List.replicate (shaZeros p.length) 0 ++ shaTail p.length 0 := by simp [shaTail]
      rw [e] at h
      exact h.keep [2, 3, 4, 5, 6, 7]
    clear h a w; intro x a w hx h
    obtain ⟨j, va⟩ := x
    replace hx : j ≤ 8 := hx
    have htl : (shaTail p.length j).length = j := by simp [shaTail]
    dsimp only at h
    as_aux_lemma =>
     refine c_seq ?_
     refine c_seq (c_region ?_)
     refine wv h (r_move h rfl) rfl ?_
     clear h a w; intro a w h
     refine wv h (r_bin h rfl rfl (B.lss_int)) rfl ?_
     clear h a w; intro a w h
     refine wnil (c_then ?_)
     refine c_condD h rfl (fun ht2 => ?_) (fun ht2 => ?_)
     ·
      refine c_skip ?_
      refine c_then ?_
      refine c_seq ?_
      refine c_block ?_
      refine c_region ?_
      refine wv h (r_move h rfl) rfl ?_
      clear h a w; intro a w h
      refine wv h (r_move h rfl) rfl ?_
      clear h a w; intro a w h
      refine wv h (r_move h rfl) rfl ?_
      clear h a w; intro a w h
      refine wv h (r_bin h rfl rfl (B.mul_i64 (by omega) (by omega))) rfl ?_
      clear h a w; intro a w h
      refine wv h (r_bin h rfl rfl (B.sub_i64 (by omega) (by omega))) rfl ?_
      clear h a w; intro a w h
      refine wv h (r_bin h rfl rfl (B.shr_u64 (by omega))) rfl ?_
      clear h a w; intro a w h
      refine wv h (r_conv h rfl K.u_uint64 K.u_uint8 (C.u8_u64) ) rfl ?_
      clear h a w; intro a w h
      rw [toUInt8_ofNat64, hn, show (56 - 8 * (j : Int)).toNat = 56 - 8 * j by omega] at h
      refine wl rfl (op_buildSlice h K.u_S_uint8 K.sz_uint8 K.z_uint8 rfl rfl rfl rfl rfl (by simp [Value.cells, bv, w32, w64, sv]) rfl ?_)
      clear h a w; intro b59 a w h
      refine wl rfl (op_appendb h rfl rfl K.u_S_uint8 K.sz_uint8 K.z_uint8 rfl rfl 0 rfl (by (simp; omega)) rfl ?_)
      clear h a w; intro v60 a w h
      (simp only [List.set_cons_zero, List.set_cons_succ] at h)
      refine wv h (r_assign h rfl) rfl ?_
      clear h a w; intro a w h
      rw [List.append_assoc _ (shaTail p.length j), shaTail_succ] at h
      refine wnil ?_
      refine b_normal ?_
      refine c_then ?_
      refine c_region ?_
      refine wv h (r_move h rfl) rfl ?_
      clear h a w; intro a w h
      refine wv h (r_bin h rfl rfl (B.add_i64 (by omega) (by omega))) rfl ?_
      clear h a w; intro a w h
      refine wv h (r_assign h rfl) rfl ?_
      clear h a w; intro a w h
      refine wnil ?_
      exact ⟨(j + 1, v60), h.keep [2, 3, 4, 5, 6, 7], (by show j + 1 ≤ 8; omega), by show 8 - (j + 1) < 8 - j; omega⟩
     ·
      obtain rfl : j = 8 := by omega
      rw [← shaPad_eq] at h
      have hpl := shaPad_len p
      have hpl2 : (shaPad p).length ≤ 2147483648 + 200 := by simp [shaPad]; omega
      have hsha : sha p = (shaAll ((shaPad p).length / 64) sha0 (shaPad p)).lst.flatMap shaBytes := rfl
      generalize shaPad p = pad at h hpl hpl2 hsha
      generalize hR : shaAll (pad.length / 64) sha0 pad = R at hsha
      rw [← hG] at h
      replace h : St 284 s a w _ (OwnL w32 vh sha0.lst :: OwnB va pad :: Gk) := h.front 1 rfl
      refine c_exit ?_
      refine e_then ?_
      refine e_then ?_
      refine e_here ?_
      refine c_then ?_
      refine c_seq ?_
      refine c_seq (c_region ?_)
      refine wv h (r_assign h rfl) rfl ?_
      clear h a w; intro a w h
      refine wnil (c_then ?_)
      refine c_block ?_
      refine c_loopX h (X := Nat × Sha8) (fun x => [(2, .pointer (some ⟨b2, 0, none⟩)), (3, vk), (4, vh), (5, va), (8, .int .i64 ((64 * x.1 : Nat) : Int))])
        (fun x => OwnL w32 vh x.2.lst :: OwnB va pad :: Gk) (fun x => 64 * x.1 ≤ pad.length ∧ shaAll ((pad.drop (64 * x.1)).length / 64) x.2 (pad.drop (64 * x.1)) = R) (fun x => pad.length - 64 * x.1) (0, sha0) (h.keep [2, 3, 4, 5, 8]) ⟨by simp, by simpa using hR⟩ ?_
      clear h a w; intro x a w hx h
      obtain ⟨k, hh⟩ := x
      obtain ⟨hx1, hx2⟩ := hx
      replace hx1 : 64 * k ≤ pad.length := hx1
      dsimp only at h hx2
      as_aux_lemma =>
       refine c_seq ?_
       refine c_seq (c_region ?_)
       refine wv h (r_move h rfl) rfl ?_
       clear h a w; intro a w h
       refine wv h (r_move h rfl) rfl ?_
       clear h a w; intro a w h
       refine wv h (r_lenB h rfl K.u_S_uint8 (by exact ViewsB.own 1 rfl)) rfl ?_
       clear h a w; intro a w h
       refine wv h (r_bin h rfl rfl (B.lss_int)) rfl ?_
       clear h a w; intro a w h
       refine wnil (c_then ?_)
       refine c_condD h rfl (fun ht3 => ?_) (fun ht3 => ?_)
       ·
        have h64 : 64 * k + 64 ≤ pad.length := by omega
        have hst := shaAll_step (pad.drop (64 * k)) hh (by rw [List.length_drop]; omega) (by rw [List.length_drop]; omega)
        rw [List.drop_drop, show 64 * k + 64 = 64 * (k + 1) by omega] at hst
        have hblk : shaBlock hh ((pad.drop (64 * k)).take 64) = shaAdd hh (shaRounds hh (shaW ((pad.drop (64 * k)).take 64)) 64) := rfl
        have hgb : ∀ j, j < 64 → ((pad.drop (64 * k)).take 64).getD j 0 = pad.getD (64 * k + j) 0 := fun j hj => drop_take_getD pad 0 _ _ _ hj
        generalize (pad.drop (64 * k)).take 64 = blk at hst hblk hgb
        have hWl := shaW_len blk
        have hWlow := shaW_low blk
        have hWhigh := shaW_high blk
        generalize shaW blk = W at hWl hWlow hWhigh hblk
        have hll : hh.lst.length = 8 := rfl
        refine c_skip ?_
        refine c_then ?_
        refine c_seq ?_
        refine c_block ?_
        refine c_seq (c_region ?_)
        refine wv h (r_assign h rfl) rfl ?_
        clear h a w; intro a w h
        replace h := h.addNilL (enc := w32)
        generalize hM : (OwnL w32 vh hh.lst :: OwnB va pad :: Gk) = M at h
        have hvM : ViewsB M va pad := by rw [← hM]; exact ViewsB.own 1 rfl
        have hvMk : Views M 1 vk 64 (shaK.map w32) := by rw [← hM]; exact (hvK.cons _).cons _
        have hvMh : Views M 1 vh 8 (hh.lst.map w32) := by rw [← hM]; exact Views.own 0 rfl
        refine wnil (c_then ?_)
        refine c_seq ?_
        refine c_seq (c_region ?_)
        refine wv h (r_assign h rfl) rfl ?_
        clear h a w; intro a w h
        refine wnil (c_then ?_)
        refine c_block ?_
        refine c_loopX h (X := Nat × Value) (fun x => [(2, .pointer (some ⟨b2, 0, none⟩)), (3, vk), (4, vh), (5, va), (8, .int .i64 ((64 * k : Nat) : Int)), (9, x.2), (10, .int .i64 (x.1 : Int))])
          (fun x => OwnL w32 x.2 (W.take x.1) :: M) (fun x => x.1 ≤ 16) (fun x => 16 - x.1) (0, .slice none 0 0) (h.keep [2, 3, 4, 5, 8, 9, 10]) (Nat.zero_le _) ?_
        clear h a w; intro x a w hx h
        obtain ⟨i, v9⟩ := x
        replace hx : i ≤ 16 := hx
        dsimp only at h
        as_aux_lemma =>
         refine c_seq ?_
         refine c_seq (c_region ?_)
         refine wv h (r_move h rfl) rfl ?_
         clear h a w; intro a w h
         refine wv h (r_bin h rfl rfl (B.lss_int)) rfl ?_
         clear h a w; intro a w h
         refine wnil (c_then ?_)
         refine c_condD h rfl (fun ht4 => ?_) (fun ht4 => ?_)
         ·
          refine c_skip ?_
          refine c_then ?_
          refine c_seq ?_
          refine c_block ?_
          refine c_seq (c_region ?_)
          refine wv h (r_assign h rfl) rfl ?_
          clear h a w; intro a w h
          refine wnil (c_then ?_)
          refine c_seq ?_
          refine c_seq (c_region ?_)
          refine wv h (r_assign h rfl) rfl ?_
          clear h a w; intro a w h
          refine wnil (c_then ?_)
          refine c_block ?_
          refine c_loopX h (X := Nat) (fun j => [(2, .pointer (some ⟨b2, 0, none⟩)), (3, vk), (4, vh), (5, va), (8, .int .i64 ((64 * k : Nat) : Int)), (9, v9), (10, .int .i64 (i : Int)), (11, w32 (shaAcc blk i j)), (12, .int .i64 (j : Int))])
            (fun j => OwnL w32 v9 (W.take i) :: M) (fun j => j ≤ 4) (fun j => 4 - j) 0 (h.keep [2, 3, 4, 5, 8, 9, 10, 11, 12]) (Nat.zero_le _) ?_
          clear h a w; intro j a w hxj h
          as_aux_lemma =>
           refine c_seq ?_
           refine c_seq (c_region ?_)
           refine wv h (r_move h rfl) rfl ?_
           clear h a w; intro a w h
           refine wv h (r_bin h rfl rfl (B.lss_int)) rfl ?_
           clear h a w; intro a w h
           refine wnil (c_then ?_)
           refine c_condD h rfl (fun ht5 => ?_) (fun ht5 => ?_)
           ·
            refine c_skip ?_
            refine c_then ?_
            refine c_seq ?_
            refine c_block ?_
            refine c_region ?_
            refine wv h (r_move h rfl) rfl ?_
            clear h a w; intro a w h
            refine wv h (r_bin h rfl rfl (B.mul_u32 (y := 256))) rfl ?_
            clear h a w; intro a w h
            refine wv h (r_move h rfl) rfl ?_
            clear h a w; intro a w h
            refine wv h (r_move h rfl) rfl ?_
            clear h a w; intro a w h
            refine wv h (r_move h rfl) rfl ?_
            clear h a w; intro a w h
            refine wv h (r_bin h rfl rfl (B.mul_i64 (by omega) (by omega))) rfl ?_
            clear h a w; intro a w h
            refine wv h (r_bin h rfl rfl (B.add_i64 (by omega) (by omega))) rfl ?_
            clear h a w; intro a w h
            refine wv h (r_move h rfl) rfl ?_
            clear h a w; intro a w h
            refine wv h (r_bin h rfl rfl (B.add_i64 (by omega) (by omega))) rfl ?_
            clear h a w; intro a w h
            refine wv h (r_elP h rfl rfl K.u_S_uint8 K.sz_uint8 (by exact ViewsB.cons (by assumption) _) (by omega) (by omega)) rfl ?_
            clear h a w; intro a w h
            refine wv h (r_elb h rfl K.u_uint8 rfl (by exact ViewsB.cons (by assumption) _) (by omega)) rfl ?_
            clear h a w; intro a w h
            rw [Nat.add_assoc (64 * k), ← hgb (4 * i + j) (by omega)] at h
            refine wv h (r_conv h rfl K.u_uint8 K.u_uint32 (C.u32_u8) ) rfl ?_
            clear h a w; intro a w h
            refine wv h (r_bin h rfl rfl (B.add_u32)) rfl ?_
            clear h a w; intro a w h
            refine wv h (r_assign h rfl) rfl ?_
            clear h a w; intro a w h
            refine wnil ?_
            refine b_normal ?_
            refine c_then ?_
            refine c_region ?_
            refine wv h (r_move h rfl) rfl ?_
            clear h a w; intro a w h
            refine wv h (r_bin h rfl rfl (B.add_i64 (by omega) (by omega))) rfl ?_
            clear h a w; intro a w h
            refine wv h (r_assign h rfl) rfl ?_
            clear h a w; intro a w h
            refine wnil ?_
            exact ⟨j + 1, h.keep [2, 3, 4, 5, 8, 9, 10, 11, 12], (by show j + 1 ≤ 4; omega), by show 4 - (j + 1) < 4 - j; omega⟩
           ·
            obtain rfl : j = 4 := by omega
            have hWi := hWlow i (by omega)
            rw [shaAcc_four] at h
            have htk : W.take i ++ [shaWord blk i] = W.take (i + 1) := by rw [List.take_add_one, hWi]; rfl
            have hl9 : (W.take i).length = i := by rw [List.length_take]; omega
            refine c_exit ?_
            refine e_then ?_
            refine e_then ?_
            refine e_here ?_
            refine c_then ?_
            refine c_region ?_
            refine wv h (r_move h rfl) rfl ?_
            clear h a w; intro a w h
            refine wv h (r_move h rfl) rfl ?_
            clear h a w; intro a w h
            refine wl rfl (op_buildSlice h K.u_S_uint32 K.sz_uint32 K.z_uint32 rfl rfl rfl rfl rfl (by simp [Value.cells, bv, w32, w64, sv]) rfl ?_)
            clear h a w; intro b90 a w h
            refine wl rfl (op_appendL1 (enc := w32) h rfl rfl rfl K.u_S_uint32 K.sz_uint32 K.z_uint32 rfl rfl 0 rfl (by omega) rfl ?_)
            clear h a w; intro v91 a w h
            (simp only [List.set_cons_zero, List.set_cons_succ] at h)
            rw [htk] at h
            refine wv h (r_assign h rfl) rfl ?_
            clear h a w; intro a w h
            refine wnil ?_
            refine b_normal ?_
            refine c_then ?_
            refine c_region ?_
            refine wv h (r_move h rfl) rfl ?_
            clear h a w; intro a w h
            refine wv h (r_bin h rfl rfl (B.add_i64 (by omega) (by omega))) rfl ?_
            clear h a w; intro a w h
            refine wv h (r_assign h rfl) rfl ?_
            clear h a w; intro a w h
            refine wnil ?_
            exact ⟨(i + 1, v91), h.keep [2, 3, 4, 5, 8, 9, 10], (by show i + 1 ≤ 16; omega), by show 16 - (i + 1) < 16 - i; omega⟩
         ·
          obtain rfl : i = 16 := by omega
          refine c_exit ?_
          refine e_then ?_
          refine e_then ?_
          refine e_here ?_
          refine c_then ?_
          refine c_seq ?_
          refine c_seq (c_region ?_)
          refine wv h (r_assign h rfl) rfl ?_
          clear h a w; intro a w h
          refine wnil (c_then ?_)
          refine c_block ?_
          refine c_loopX h (X := Nat × Value) (fun x => [(2, .pointer (some ⟨b2, 0, none⟩)), (3, vk), (4, vh), (5, va), (8, .int .i64 ((64 * k : Nat) : Int)), (9, x.2), (13, .int .i64 (x.1 : Int))])
            (fun x => OwnL w32 x.2 (W.take x.1) :: M) (fun x => 16 ≤ x.1 ∧ x.1 ≤ 64) (fun x => 64 - x.1) (16, v9) (h.keep [2, 3, 4, 5, 8, 9, 13]) (by simp) ?_
          clear h a w; intro x a w hx h
          obtain ⟨i, v9⟩ := x
          obtain ⟨hi1, hi2⟩ := hx
          replace hi1 : 16 ≤ i := hi1
          replace hi2 : i ≤ 64 := hi2
          dsimp only at h
          have hl9 : (W.take i).length = i := by rw [List.length_take]; omega
          as_aux_lemma =>
           refine c_seq ?_
           refine c_seq (c_region ?_)
           refine wv h (r_move h rfl) rfl ?_
           clear h a w; intro a w h
           refine wv h (r_bin h rfl rfl (B.lss_int)) rfl ?_
           clear h a w; intro a w h
           refine wnil (c_then ?_)
           refine c_condD h rfl (fun ht6 => ?_) (fun ht6 => ?_)
           ·
            have hWi := hWhigh i hi1 (by omega)
            have htk : W.take i ++ [shaNext (W.take i)] = W.take (i + 1) := by rw [List.take_add_one, hWi]; rfl
            have hnx : (W.take i).getD (i - 16) 0 + shaS0 ((W.take i).getD (i - 15) 0) + (W.take i).getD (i - 7) 0 + shaS1 ((W.take i).getD (i - 2) 0) = shaNext (W.take i) := by rw [shaNext, hl9]
            generalize W.take i = Y at *
            refine c_skip ?_
            refine c_then ?_
            refine c_seq ?_
            refine c_block ?_
            refine c_seq (c_draw K.mixed (by kernel_rfl) h ?_)
            clear h a w; intro a hE
            refine qv hE (fun w hw => r_move ⟨hE, hw⟩ rfl) rfl ?_
            clear hE a; intro a hE
            refine qv hE (fun w hw => r_move ⟨hE, hw⟩ rfl) rfl ?_
            clear hE a; intro a hE
            refine qv hE (fun w hw => r_bin ⟨hE, hw⟩ rfl rfl (B.sub_i64 (by omega) (by omega))) rfl ?_
            clear hE a; intro a hE
            refine qv hE (fun w hw => r_elP ⟨hE, hw⟩ rfl rfl K.u_S_uint32 K.sz_uint32 (by exact Views.own 0 rfl) (by omega) (by omega)) rfl ?_
            clear hE a; intro a hE
            refine qv hE (fun w hw => r_el32 ⟨hE, hw⟩ rfl K.u_uint32 rfl (by exact Views.own 0 rfl) (by omega)) rfl ?_
            clear hE a; intro a hE
            refine q_call hE rfl K.go_ref01_turn (fun w hw => Ret.keeps (ref_turn s w _ 7 (by omega) (by omega) _ hw) (fun _ _ => rfl) (fun _ _ h => h)) rfl ?_
            clear hE a; intro a hE
            refine qv hE (fun w hw => r_move ⟨hE, hw⟩ rfl) rfl ?_
            clear hE a; intro a hE
            refine qv hE (fun w hw => r_move ⟨hE, hw⟩ rfl) rfl ?_
            clear hE a; intro a hE
            refine qv hE (fun w hw => r_bin ⟨hE, hw⟩ rfl rfl (B.sub_i64 (by omega) (by omega))) rfl ?_
            clear hE a; intro a hE
            refine qv hE (fun w hw => r_elP ⟨hE, hw⟩ rfl rfl K.u_S_uint32 K.sz_uint32 (by exact Views.own 0 rfl) (by omega) (by omega)) rfl ?_
            clear hE a; intro a hE
            refine qv hE (fun w hw => r_el32 ⟨hE, hw⟩ rfl K.u_uint32 rfl (by exact Views.own 0 rfl) (by omega)) rfl ?_
            clear hE a; intro a hE
            refine q_call hE rfl K.go_ref01_turn (fun w hw => Ret.keeps (ref_turn s w _ 18 (by omega) (by omega) _ hw) (fun _ _ => rfl) (fun _ _ h => h)) rfl ?_
            clear hE a; intro a hE
            refine qv hE (fun w hw => r_bin ⟨hE, hw⟩ rfl rfl (B.xor_u32)) rfl ?_
            clear hE a; intro a hE
            refine qv hE (fun w hw => r_move ⟨hE, hw⟩ rfl) rfl ?_
            clear hE a; intro a hE
            refine qv hE (fun w hw => r_move ⟨hE, hw⟩ rfl) rfl ?_
            clear hE a; intro a hE
            refine qv hE (fun w hw => r_bin ⟨hE, hw⟩ rfl rfl (B.sub_i64 (by omega) (by omega))) rfl ?_
            clear hE a; intro a hE
            refine qv hE (fun w hw => r_elP ⟨hE, hw⟩ rfl rfl K.u_S_uint32 K.sz_uint32 (by exact Views.own 0 rfl) (by omega) (by omega)) rfl ?_
            clear hE a; intro a hE
            refine qv hE (fun w hw => r_el32 ⟨hE, hw⟩ rfl K.u_uint32 rfl (by exact Views.own 0 rfl) (by omega)) rfl ?_
            clear hE a; intro a hE
            refine qv hE (fun w hw => r_bin ⟨hE, hw⟩ rfl rfl (B.shr_u32 (by decide))) rfl ?_
            clear hE a; intro a hE
            refine qv hE (fun w hw => r_bin ⟨hE, hw⟩ rfl rfl (B.xor_u32)) rfl ?_
            clear hE a; intro a hE
            rw [show rotr (Y.getD (i - 15) 0) 7 ^^^ rotr (Y.getD (i - 15) 0) 18 ^^^ UInt32.ofNat ((Y.getD (i - 15) 0).toNat / 2 ^ (3 : Int).toNat) = shaS0 (Y.getD (i - 15) 0) from rfl] at hE
            refine qv hE (fun w hw => r_assign ⟨hE, hw⟩ rfl) rfl ?_
            clear hE a; intro a hE
            refine qnil hE ?_
            clear hE a; intro a w h
            refine c_then ?_
            refine c_seq (c_draw K.mixed (by kernel_rfl) h ?_)
            clear h a w; intro a hE
            refine qv hE (fun w hw => r_move ⟨hE, hw⟩ rfl) rfl ?_
            clear hE a; intro a hE
            refine qv hE (fun w hw => r_move ⟨hE, hw⟩ rfl) rfl ?_
            clear hE a; intro a hE
            refine qv hE (fun w hw => r_bin ⟨hE, hw⟩ rfl rfl (B.sub_i64 (by omega) (by omega))) rfl ?_
            clear hE a; intro a hE
            refine qv hE (fun w hw => r_elP ⟨hE, hw⟩ rfl rfl K.u_S_uint32 K.sz_uint32 (by exact Views.own 0 rfl) (by omega) (by omega)) rfl ?_
            clear hE a; intro a hE
            refine qv hE (fun w hw => r_el32 ⟨hE, hw⟩ rfl K.u_uint32 rfl (by exact Views.own 0 rfl) (by omega)) rfl ?_
            clear hE a; intro a hE
            refine q_call hE rfl K.go_ref01_turn (fun w hw => Ret.keeps (ref_turn s w _ 17 (by omega) (by omega) _ hw) (fun _ _ => rfl) (fun _ _ h => h)) rfl ?_
            clear hE a; intro a hE
            refine qv hE (fun w hw => r_move ⟨hE, hw⟩ rfl) rfl ?_
            clear hE a; intro a hE
            refine qv hE (fun w hw => r_move ⟨hE, hw⟩ rfl) rfl ?_
            clear hE a; intro a hE
            refine qv hE (fun w hw => r_bin ⟨hE, hw⟩ rfl rfl (B.sub_i64 (by omega) (by omega))) rfl ?_
            clear hE a; intro a hE
            refine qv hE (fun w hw => r_elP ⟨hE, hw⟩ rfl rfl K.u_S_uint32 K.sz_uint32 (by exact Views.own 0 rfl) (by omega) (by omega)) rfl ?_
            clear hE a; intro a hE
            refine qv hE (fun w hw => r_el32 ⟨hE, hw⟩ rfl K.u_uint32 rfl (by exact Views.own 0 rfl) (by omega)) rfl ?_
            clear hE a; intro a hE
            refine q_call hE rfl K.go_ref01_turn (fun w hw => Ret.keeps (ref_turn s w _ 19 (by omega) (by omega) _ hw) (fun _ _ => rfl) (fun _ _ h => h)) rfl ?_
            clear hE a; intro a hE
            refine qv hE (fun w hw => r_bin ⟨hE, hw⟩ rfl rfl (B.xor_u32)) rfl ?_
            clear hE a; intro a hE
            refine qv hE (fun w hw => r_move ⟨hE, hw⟩ rfl) rfl ?_
            clear hE a; intro a hE
            refine qv hE (fun w hw => r_move ⟨hE, hw⟩ rfl) rfl ?_
            clear hE a; intro a hE
            refine qv hE (fun w hw => r_bin ⟨hE, hw⟩ rfl rfl (B.sub_i64 (by omega) (by omega))) rfl ?_
            clear hE a; intro a hE
            refine qv hE (fun w hw => r_elP ⟨hE, hw⟩ rfl rfl K.u_S_uint32 K.sz_uint32 (by exact Views.own 0 rfl) (by omega) (by omega)) rfl ?_
            clear hE a; intro a hE
            refine qv hE (fun w hw => r_el32 ⟨hE, hw⟩ rfl K.u_uint32 rfl (by exact Views.own 0 rfl) (by omega)) rfl ?_
            clear hE a; intro a hE
            refine qv hE (fun w hw => r_bin ⟨hE, hw⟩ rfl rfl (B.shr_u32 (by decide))) rfl ?_
            clear hE a; intro a hE
            refine qv hE (fun w hw => r_bin ⟨hE, hw⟩ rfl rfl (B.xor_u32)) rfl ?_
            clear hE a; intro a hE
            rw [show rotr (Y.getD (i - 2) 0) 17 ^^^ rotr (Y.getD (i - 2) 0) 19 ^^^ UInt32.ofNat ((Y.getD (i - 2) 0).toNat / 2 ^ (10 : Int).toNat) = shaS1 (Y.getD (i - 2) 0) from rfl] at hE
            refine qv hE (fun w hw => r_assign ⟨hE, hw⟩ rfl) rfl ?_
            clear hE a; intro a hE
            refine qnil hE ?_
            clear hE a; intro a w h
            refine c_then ?_
            refine c_held ((Rd 1 v9 Y.length (Y.map w32) :: M)) 19 K.mixed rfl h ?_
            clear h a w; intro a w h
            refine h_take (listed' := #[true, false, false, false, false, false, false, false, false, false, false, false, false, false, false, false, false, false, false]) h 0 (by as_aux_lemma => kernel_rfl) rfl (by as_aux_lemma => kernel_rfl) (by as_aux_lemma => kernel_rfl) (by as_aux_lemma => kernel_rfl) (fun _ _ _ hh => hh) (by exact h.2.rd0) (fun w hw => r_move ⟨h.1, hw⟩ rfl) rfl ?_
            try clear hR
            clear h a w; intro a w h
            refine h_take (listed' := #[true, true, false, false, false, false, false, false, false, false, false, false, false, false, false, false, false, false, false]) h 1 (by as_aux_lemma => kernel_rfl) rfl (by as_aux_lemma => kernel_rfl) (by as_aux_lemma => kernel_rfl) (by as_aux_lemma => kernel_rfl) (fun _ _ _ hh => hh) (by exact h.2.rd0) (fun w hw => r_move ⟨h.1, hw⟩ rfl) rfl ?_
            try clear hR
            clear h a w; intro a w h
            refine h_take (listed' := #[true, true, true, false, false, false, false, false, false, false, false, false, false, false, false, false, false, false, false]) h 2 (by as_aux_lemma => kernel_rfl) rfl (by as_aux_lemma => kernel_rfl) (by as_aux_lemma => kernel_rfl) (by as_aux_lemma => kernel_rfl) (fun _ _ _ hh => hh) (by exact h.2.rd0) (fun w hw => r_move ⟨h.1, hw⟩ rfl) rfl ?_
            try clear hR
            clear h a w; intro a w h
            refine h_take (listed' := #[true, true, true, true, false, false, false, false, false, false, false, false, false, false, false, false, false, false, false]) h 3 (by as_aux_lemma => kernel_rfl) rfl (by as_aux_lemma => kernel_rfl) (by as_aux_lemma => kernel_rfl) (by as_aux_lemma => kernel_rfl) (fun _ _ _ hh => hh) (by exact h.2.rd0) (fun w hw => r_bin ⟨h.1, hw⟩ rfl rfl (B.sub_i64 (by omega) (by omega))) rfl ?_
            try clear hR
            clear h a w; intro a w h
            refine h_take (listed' := #[true, true, true, true, true, false, false, false, false, false, false, false, false, false, false, false, false, false, false]) h 4 (by as_aux_lemma => kernel_rfl) rfl (by as_aux_lemma => kernel_rfl) (by as_aux_lemma => kernel_rfl) (by as_aux_lemma => kernel_rfl) (fun _ _ _ hh => hh) (by exact h.2.rd0) (fun w hw => r_elP ⟨h.1, hw⟩ rfl rfl K.u_S_uint32 K.sz_uint32 (Views.rd 0 rfl) (by omega) (by omega)) rfl ?_
            try clear hR
            clear h a w; intro a w h
            refine h_take (listed' := #[true, true, true, true, true, true, false, false, false, false, false, false, false, false, false, false, false, false, false]) h 5 (by as_aux_lemma => kernel_rfl) rfl (by as_aux_lemma => kernel_rfl) (by as_aux_lemma => kernel_rfl) (by as_aux_lemma => kernel_rfl) (fun _ _ _ hh => hh) (by exact h.2.rd0) (fun w hw => r_el32 ⟨h.1, hw⟩ rfl K.u_uint32 rfl (Views.rd 0 rfl) (by omega)) rfl ?_
            try clear hR
            clear h a w; intro a w h
            refine h_take (listed' := #[true, true, true, true, true, true, true, false, false, false, false, false, false, false, false, false, false, false, false]) h 6 (by as_aux_lemma => kernel_rfl) rfl (by as_aux_lemma => kernel_rfl) (by as_aux_lemma => kernel_rfl) (by as_aux_lemma => kernel_rfl) (fun _ _ _ hh => hh) (by exact h.2.rd0) (fun w hw => r_move ⟨h.1, hw⟩ rfl) rfl ?_
            try clear hR
            clear h a w; intro a w h
            refine h_take (listed' := #[true, true, true, true, true, true, true, true, false, false, false, false, false, false, false, false, false, false, false]) h 7 (by as_aux_lemma => kernel_rfl) rfl (by as_aux_lemma => kernel_rfl) (by as_aux_lemma => kernel_rfl) (by as_aux_lemma => kernel_rfl) (fun _ _ _ hh => hh) (by exact h.2.rd0) (fun w hw => r_bin ⟨h.1, hw⟩ rfl rfl (B.add_u32)) rfl ?_
            try clear hR
            clear h a w; intro a w h
            refine h_take (listed' := #[true, true, true, true, true, true, true, true, true, false, false, false, false, false, false, false, false, false, false]) h 8 (by as_aux_lemma => kernel_rfl) rfl (by as_aux_lemma => kernel_rfl) (by as_aux_lemma => kernel_rfl) (by as_aux_lemma => kernel_rfl) (fun _ _ _ hh => hh) (by exact h.2.rd0) (fun w hw => r_move ⟨h.1, hw⟩ rfl) rfl ?_
            try clear hR
            clear h a w; intro a w h
            refine h_take (listed' := #[true, true, true, true, true, true, true, true, true, true, false, false, false, false, false, false, false, false, false]) h 9 (by as_aux_lemma => kernel_rfl) rfl (by as_aux_lemma => kernel_rfl) (by as_aux_lemma => kernel_rfl) (by as_aux_lemma => kernel_rfl) (fun _ _ _ hh => hh) (by exact h.2.rd0) (fun w hw => r_move ⟨h.1, hw⟩ rfl) rfl ?_
            try clear hR
            clear h a w; intro a w h
            refine h_take (listed' := #[true, true, true, true, true, true, true, true, true, true, true, false, false, false, false, false, false, false, false]) h 10 (by as_aux_lemma => kernel_rfl) rfl (by as_aux_lemma => kernel_rfl) (by as_aux_lemma => kernel_rfl) (by as_aux_lemma => kernel_rfl) (fun _ _ _ hh => hh) (by exact h.2.rd0) (fun w hw => r_bin ⟨h.1, hw⟩ rfl rfl (B.sub_i64 (by omega) (by omega))) rfl ?_
            try clear hR
            clear h a w; intro a w h
            refine h_take (listed' := #[true, true, true, true, true, true, true, true, true, true, true, true, false, false, false, false, false, false, false]) h 11 (by as_aux_lemma => kernel_rfl) rfl (by as_aux_lemma => kernel_rfl) (by as_aux_lemma => kernel_rfl) (by as_aux_lemma => kernel_rfl) (fun _ _ _ hh => hh) (by exact h.2.rd0) (fun w hw => r_elP ⟨h.1, hw⟩ rfl rfl K.u_S_uint32 K.sz_uint32 (Views.rd 0 rfl) (by omega) (by omega)) rfl ?_
            try clear hR
            clear h a w; intro a w h
            refine h_take (listed' := #[true, true, true, true, true, true, true, true, true, true, true, true, true, false, false, false, false, false, false]) h 12 (by as_aux_lemma => kernel_rfl) rfl (by as_aux_lemma => kernel_rfl) (by as_aux_lemma => kernel_rfl) (by as_aux_lemma => kernel_rfl) (fun _ _ _ hh => hh) (by exact h.2.rd0) (fun w hw => r_el32 ⟨h.1, hw⟩ rfl K.u_uint32 rfl (Views.rd 0 rfl) (by omega)) rfl ?_
            try clear hR
            clear h a w; intro a w h
            refine h_take (listed' := #[true, true, true, true, true, true, true, true, true, true, true, true, true, true, false, false, false, false, false]) h 13 (by as_aux_lemma => kernel_rfl) rfl (by as_aux_lemma => kernel_rfl) (by as_aux_lemma => kernel_rfl) (by as_aux_lemma => kernel_rfl) (fun _ _ _ hh => hh) (by exact h.2.rd0) (fun w hw => r_bin ⟨h.1, hw⟩ rfl rfl (B.add_u32)) rfl ?_
            try clear hR
            clear h a w; intro a w h
            refine h_take (listed' := #[true, true, true, true, true, true, true, true, true, true, true, true, true, true, true, false, false, false, false]) h 14 (by as_aux_lemma => kernel_rfl) rfl (by as_aux_lemma => kernel_rfl) (by as_aux_lemma => kernel_rfl) (by as_aux_lemma => kernel_rfl) (fun _ _ _ hh => hh) (by exact h.2.rd0) (fun w hw => r_move ⟨h.1, hw⟩ rfl) rfl ?_
            try clear hR
            clear h a w; intro a w h
            refine h_take (listed' := #[true, true, true, true, true, true, true, true, true, true, true, true, true, true, true, true, false, false, false]) h 15 (by as_aux_lemma => kernel_rfl) rfl (by as_aux_lemma => kernel_rfl) (by as_aux_lemma => kernel_rfl) (by as_aux_lemma => kernel_rfl) (fun _ _ _ hh => hh) (by exact h.2.rd0) (fun w hw => r_bin ⟨h.1, hw⟩ rfl rfl (B.add_u32)) rfl ?_
            try clear hR
            clear h a w; intro a w h
            rw [hnx] at h
            refine h_only (listed' := #[true, true, true, true, true, true, true, true, true, true, true, true, true, true, true, true, true, false, false]) 16 (by as_aux_lemma => kernel_rfl) rfl rfl (by as_aux_lemma => kernel_rfl) ?_
            refine op_buildSlice h K.u_S_uint32 K.sz_uint32 K.z_uint32 rfl rfl rfl rfl rfl (by simp [Value.cells, bv, w32, w64, sv]) rfl ?_
            clear h a w; intro b152 a w h
            refine ⟨(by exact (h.2.drop 1).rd0), ?_⟩
            refine h_only (listed' := #[true, true, true, true, true, true, true, true, true, true, true, true, true, true, true, true, true, true, false]) 17 (by as_aux_lemma => kernel_rfl) rfl rfl (by as_aux_lemma => kernel_rfl) ?_
            refine op_appendL1R (enc := w32) h rfl rfl rfl K.u_S_uint32 K.sz_uint32 K.z_uint32 rfl rfl 0 rfl (by omega) rfl ?_
            clear h a w; intro v153 a w hR h
            (simp only [List.set_cons_zero, List.set_cons_succ] at h)
            simp only [List.set_cons_zero] at h hR
            rw [htk] at h
            refine ⟨(by exact hR), ?_⟩
            refine h_take (listed' := #[true, true, true, true, true, true, true, true, true, true, true, true, true, true, true, true, true, true, true]) h 18 (by as_aux_lemma => kernel_rfl) rfl (by as_aux_lemma => kernel_rfl) (by as_aux_lemma => kernel_rfl) (by as_aux_lemma => kernel_rfl) (fun _ _ _ hh => hh) (by exact hR) (fun w hw => r_assign ⟨h.1, hw⟩ rfl) rfl ?_
            try clear hR
            clear h a w; intro a w h
            refine h_done (by kernel_rfl) ?_
            refine b_normal ?_
            refine c_then ?_
            refine c_region ?_
            refine wv h (r_move h rfl) rfl ?_
            clear h a w; intro a w h
            refine wv h (r_bin h rfl rfl (B.add_i64 (by omega) (by omega))) rfl ?_
            clear h a w; intro a w h
            refine wv h (r_assign h rfl) rfl ?_
            clear h a w; intro a w h
            refine wnil ?_
            exact ⟨(i + 1, v153), h.keep [2, 3, 4, 5, 8, 9, 13], (by show 16 ≤ i + 1 ∧ i + 1 ≤ 64; omega), by show 64 - (i + 1) < 64 - i; omega⟩
           ·
            obtain rfl : i = 64 := by omega
            rw [List.take_of_length_le (by omega)] at h
            refine c_exit ?_
            refine e_then ?_
            refine e_then ?_
            refine e_here ?_
            refine c_then ?_
            refine c_seq (c_region ?_)
            refine wv h (r_move h rfl) rfl ?_
            clear h a w; intro a w h
            refine wv h (r_elP h rfl rfl K.u_S_uint32 K.sz_uint32 (by exact Views.cons (by assumption) _) (by omega) (by omega)) rfl ?_
            clear h a w; intro a w h
            refine wv h (r_el32 h rfl K.u_uint32 rfl (by exact Views.cons (by assumption) _) (by omega)) rfl ?_
            clear h a w; intro a w h
            rw [show hh.lst.getD 0 0 = hh.a from rfl] at h
            refine wv h (r_assign h rfl) rfl ?_
            clear h a w; intro a w h
            refine wnil (c_then ?_)
            refine c_seq (c_region ?_)
            refine wv h (r_move h rfl) rfl ?_
            clear h a w; intro a w h
            refine wv h (r_elP h rfl rfl K.u_S_uint32 K.sz_uint32 (by exact Views.cons (by assumption) _) (by omega) (by omega)) rfl ?_
            clear h a w; intro a w h
            refine wv h (r_el32 h rfl K.u_uint32 rfl (by exact Views.cons (by assumption) _) (by omega)) rfl ?_
            clear h a w; intro a w h
            rw [show hh.lst.getD 1 0 = hh.b from rfl] at h
            refine wv h (r_assign h rfl) rfl ?_
            clear h a w; intro a w h
            refine wnil (c_then ?_)
            refine c_seq (c_region ?_)
            refine wv h (r_move h rfl) rfl ?_
            clear h a w; intro a w h
            refine wv h (r_elP h rfl rfl K.u_S_uint32 K.sz_uint32 (by exact Views.cons (by assumption) _) (by omega) (by omega)) rfl ?_
            clear h a w; intro a w h
            refine wv h (r_el32 h rfl K.u_uint32 rfl (by exact Views.cons (by assumption) _) (by omega)) rfl ?_
            clear h a w; intro a w h
            rw [show hh.lst.getD 2 0 = hh.c from rfl] at h
            refine wv h (r_assign h rfl) rfl ?_
            clear h a w; intro a w h
            refine wnil (c_then ?_)
            refine c_seq (c_region ?_)
            refine wv h (r_move h rfl) rfl ?_
            clear h a w; intro a w h
            refine wv h (r_elP h rfl rfl K.u_S_uint32 K.sz_uint32 (by exact Views.cons (by assumption) _) (by omega) (by omega)) rfl ?_
            clear h a w; intro a w h
            refine wv h (r_el32 h rfl K.u_uint32 rfl (by exact Views.cons (by assumption) _) (by omega)) rfl ?_
            clear h a w; intro a w h
            rw [show hh.lst.getD 3 0 = hh.d from rfl] at h
            refine wv h (r_assign h rfl) rfl ?_
            clear h a w; intro a w h
            refine wnil (c_then ?_)
            refine c_seq (c_region ?_)
            refine wv h (r_move h rfl) rfl ?_
            clear h a w; intro a w h
            refine wv h (r_elP h rfl rfl K.u_S_uint32 K.sz_uint32 (by exact Views.cons (by assumption) _) (by omega) (by omega)) rfl ?_
            clear h a w; intro a w h
            refine wv h (r_el32 h rfl K.u_uint32 rfl (by exact Views.cons (by assumption) _) (by omega)) rfl ?_
            clear h a w; intro a w h
            rw [show hh.lst.getD 4 0 = hh.e from rfl] at h
            refine wv h (r_assign h rfl) rfl ?_
            clear h a w; intro a w h
            refine wnil (c_then ?_)
            refine c_seq (c_region ?_)
            refine wv h (r_move h rfl) rfl ?_
            clear h a w; intro a w h
            refine wv h (r_elP h rfl rfl K.u_S_uint32 K.sz_uint32 (by exact Views.cons (by assumption) _) (by omega) (by omega)) rfl ?_
            clear h a w; intro a w h
            refine wv h (r_el32 h rfl K.u_uint32 rfl (by exact Views.cons (by assumption) _) (by omega)) rfl ?_
            clear h a w; intro a w h
            rw [show hh.lst.getD 5 0 = hh.f from rfl] at h
            refine wv h (r_assign h rfl) rfl ?_
            clear h a w; intro a w h
            refine wnil (c_then ?_)
            refine c_seq (c_region ?_)
            refine wv h (r_move h rfl) rfl ?_
            clear h a w; intro a w h
            refine wv h (r_elP h rfl rfl K.u_S_uint32 K.sz_uint32 (by exact Views.cons (by assumption) _) (by omega) (by omega)) rfl ?_
            clear h a w; intro a w h
            refine wv h (r_el32 h rfl K.u_uint32 rfl (by exact Views.cons (by assumption) _) (by omega)) rfl ?_
            clear h a w; intro a w h
            rw [show hh.lst.getD 6 0 = hh.g from rfl] at h
            refine wv h (r_assign h rfl) rfl ?_
            clear h a w; intro a w h
            refine wnil (c_then ?_)
            refine c_seq (c_region ?_)
            refine wv h (r_move h rfl) rfl ?_
            clear h a w; intro a w h
            refine wv h (r_elP h rfl rfl K.u_S_uint32 K.sz_uint32 (by exact Views.cons (by assumption) _) (by omega) (by omega)) rfl ?_
            clear h a w; intro a w h
            refine wv h (r_el32 h rfl K.u_uint32 rfl (by exact Views.cons (by assumption) _) (by omega)) rfl ?_
            clear h a w; intro a w h
            rw [show hh.lst.getD 7 0 = hh.z from rfl] at h
            refine wv h (r_assign h rfl) rfl ?_
            clear h a w; intro a w h
            refine wnil (c_then ?_)
            refine c_seq ?_
            refine c_seq (c_region ?_)
            refine wv h (r_assign h rfl) rfl ?_
            clear h a w; intro a w h
            refine wnil (c_then ?_)
            refine c_block ?_
            refine c_loopX h (X := Nat) (fun i => [(2, .pointer (some ⟨b2, 0, none⟩)), (3, vk), (4, vh), (5, va), (8, .int .i64 ((64 * k : Nat) : Int)), (9, v9), (16, w32 (shaRounds hh W i).a), (17, w32 (shaRounds hh W i).b), (18, w32 (shaRounds hh W i).c), (19, w32 (shaRounds hh W i).d), (20, w32 (shaRounds hh W i).e), (21, w32 (shaRounds hh W i).f), (22, w32 (shaRounds hh W i).g), (23, w32 (shaRounds hh W i).z), (24, .int .i64 (i : Int))])
              (fun i => OwnL w32 v9 W :: M) (fun i => i ≤ 64) (fun i => 64 - i) 0 (h.keep [2, 3, 4, 5, 8, 9, 16, 17, 18, 19, 20, 21, 22, 23, 24]) (Nat.zero_le _) ?_
            clear h a w; intro i a w hx h
            as_aux_lemma =>
             refine c_seq ?_
             refine c_seq (c_region ?_)
             refine wv h (r_move h rfl) rfl ?_
             clear h a w; intro a w h
             refine wv h (r_bin h rfl rfl (B.lss_int)) rfl ?_
             clear h a w; intro a w h
             refine wnil (c_then ?_)
             refine c_condD h rfl (fun ht7 => ?_) (fun ht7 => ?_)
             ·
              have hrd : shaRounds hh W (i + 1) = shaRound (shaRounds hh W i) (shaK.getD i 0) (W.getD i 0) := rfl
              generalize shaRounds hh W i = V at h hrd
              have hkl := shaK_len
              refine c_skip ?_
              refine c_then ?_
              refine c_seq ?_
              refine c_block ?_
              refine c_seq (c_draw K.mixed (by kernel_rfl) h ?_)
              clear h a w; intro a hE
              refine qv hE (fun w hw => r_move ⟨hE, hw⟩ rfl) rfl ?_
              clear hE a; intro a hE
              refine qv hE (fun w hw => r_move ⟨hE, hw⟩ rfl) rfl ?_
              clear hE a; intro a hE
              refine q_call hE rfl K.go_ref01_turn (fun w hw => Ret.keeps (ref_turn s w _ 6 (by omega) (by omega) _ hw) (fun _ _ => rfl) (fun _ _ h => h)) rfl ?_
              clear hE a; intro a hE
              refine qv hE (fun w hw => r_move ⟨hE, hw⟩ rfl) rfl ?_
              clear hE a; intro a hE
              refine q_call hE rfl K.go_ref01_turn (fun w hw => Ret.keeps (ref_turn s w _ 11 (by omega) (by omega) _ hw) (fun _ _ => rfl) (fun _ _ h => h)) rfl ?_
              clear hE a; intro a hE
              refine qv hE (fun w hw => r_bin ⟨hE, hw⟩ rfl rfl (B.xor_u32)) rfl ?_
              clear hE a; intro a hE
              refine qv hE (fun w hw => r_move ⟨hE, hw⟩ rfl) rfl ?_
              clear hE a; intro a hE
              refine q_call hE rfl K.go_ref01_turn (fun w hw => Ret.keeps (ref_turn s w _ 25 (by omega) (by omega) _ hw) (fun _ _ => rfl) (fun _ _ h => h)) rfl ?_
              clear hE a; intro a hE
              refine qv hE (fun w hw => r_bin ⟨hE, hw⟩ rfl rfl (B.xor_u32)) rfl ?_
              clear hE a; intro a hE
              refine qv hE (fun w hw => r_bin ⟨hE, hw⟩ rfl rfl (B.add_u32)) rfl ?_
              clear hE a; intro a hE
              refine qv hE (fun w hw => r_move ⟨hE, hw⟩ rfl) rfl ?_
              clear hE a; intro a hE
              refine qv hE (fun w hw => r_move ⟨hE, hw⟩ rfl) rfl ?_
              clear hE a; intro a hE
              refine qv hE (fun w hw => r_bin ⟨hE, hw⟩ rfl rfl (B.and_u32)) rfl ?_
              clear hE a; intro a hE
              refine qv hE (fun w hw => r_move ⟨hE, hw⟩ rfl) rfl ?_
              clear hE a; intro a hE
              refine qv hE (fun w hw => r_bin ⟨hE, hw⟩ rfl rfl (B.sub_u32 (x := 4294967295))) rfl ?_
              clear hE a; intro a hE
              rw [sub_full] at hE
              refine qv hE (fun w hw => r_move ⟨hE, hw⟩ rfl) rfl ?_
              clear hE a; intro a hE
              refine qv hE (fun w hw => r_bin ⟨hE, hw⟩ rfl rfl (B.and_u32)) rfl ?_
              clear hE a; intro a hE
              refine qv hE (fun w hw => r_bin ⟨hE, hw⟩ rfl rfl (B.xor_u32)) rfl ?_
              clear hE a; intro a hE
              refine qv hE (fun w hw => r_bin ⟨hE, hw⟩ rfl rfl (B.add_u32)) rfl ?_
              clear hE a; intro a hE
              refine qv hE (fun w hw => r_move ⟨hE, hw⟩ rfl) rfl ?_
              clear hE a; intro a hE
              refine qv hE (fun w hw => r_move ⟨hE, hw⟩ rfl) rfl ?_
              clear hE a; intro a hE
              refine qv hE (fun w hw => r_elP ⟨hE, hw⟩ rfl rfl K.u_S_uint32 K.sz_uint32 (by exact Views.cons (by assumption) _) (by omega) (by omega)) rfl ?_
              clear hE a; intro a hE
              refine qv hE (fun w hw => r_el32 ⟨hE, hw⟩ rfl K.u_uint32 rfl (by exact Views.cons (by assumption) _) (by omega)) rfl ?_
              clear hE a; intro a hE
              refine qv hE (fun w hw => r_bin ⟨hE, hw⟩ rfl rfl (B.add_u32)) rfl ?_
              clear hE a; intro a hE
              refine qv hE (fun w hw => r_move ⟨hE, hw⟩ rfl) rfl ?_
              clear hE a; intro a hE
              refine qv hE (fun w hw => r_move ⟨hE, hw⟩ rfl) rfl ?_
              clear hE a; intro a hE
              refine qv hE (fun w hw => r_elP ⟨hE, hw⟩ rfl rfl K.u_S_uint32 K.sz_uint32 (by exact Views.own 0 rfl) (by omega) (by omega)) rfl ?_
              clear hE a; intro a hE
              refine qv hE (fun w hw => r_el32 ⟨hE, hw⟩ rfl K.u_uint32 rfl (by exact Views.own 0 rfl) (by omega)) rfl ?_
              clear hE a; intro a hE
              refine qv hE (fun w hw => r_bin ⟨hE, hw⟩ rfl rfl (B.add_u32)) rfl ?_
              clear hE a; intro a hE
              rw [show V.z + (rotr V.e 6 ^^^ rotr V.e 11 ^^^ rotr V.e 25) + (V.e &&& V.f ^^^ ~~~V.e &&& V.g) + shaK.getD i 0 + W.getD i 0 = shaT V (shaK.getD i 0) (W.getD i 0) from rfl] at hE
              refine qv hE (fun w hw => r_assign ⟨hE, hw⟩ rfl) rfl ?_
              clear hE a; intro a hE
              refine qnil hE ?_
              clear hE a; intro a w h
              refine c_then ?_
              refine c_seq (c_region ?_)
              refine wv h (r_move h rfl) rfl ?_
              clear h a w; intro a w h
              refine wl rfl (op_call h rfl K.go_ref01_turn (ref_turn s _ _ 2 (by omega) (by omega) _ h.2) rfl ?_)
              clear h a w; intro x a w hx h
              refine wv h (r_move h rfl) rfl ?_
              clear h a w; intro a w h
              refine wl rfl (op_call h rfl K.go_ref01_turn (ref_turn s _ _ 13 (by omega) (by omega) _ h.2) rfl ?_)
              clear h a w; intro x a w hx h
              refine wv h (r_bin h rfl rfl (B.xor_u32)) rfl ?_
              clear h a w; intro a w h
              refine wv h (r_move h rfl) rfl ?_
              clear h a w; intro a w h
              refine wl rfl (op_call h rfl K.go_ref01_turn (ref_turn s _ _ 22 (by omega) (by omega) _ h.2) rfl ?_)
              clear h a w; intro x a w hx h
              refine wv h (r_bin h rfl rfl (B.xor_u32)) rfl ?_
              clear h a w; intro a w h
              refine wv h (r_move h rfl) rfl ?_
              clear h a w; intro a w h
              refine wv h (r_move h rfl) rfl ?_
              clear h a w; intro a w h
              refine wv h (r_bin h rfl rfl (B.and_u32)) rfl ?_
              clear h a w; intro a w h
              refine wv h (r_move h rfl) rfl ?_
              clear h a w; intro a w h
              refine wv h (r_move h rfl) rfl ?_
              clear h a w; intro a w h
              refine wv h (r_bin h rfl rfl (B.and_u32)) rfl ?_
              clear h a w; intro a w h
              refine wv h (r_bin h rfl rfl (B.xor_u32)) rfl ?_
              clear h a w; intro a w h
              refine wv h (r_move h rfl) rfl ?_
              clear h a w; intro a w h
              refine wv h (r_move h rfl) rfl ?_
              clear h a w; intro a w h
              refine wv h (r_bin h rfl rfl (B.and_u32)) rfl ?_
              clear h a w; intro a w h
              refine wv h (r_bin h rfl rfl (B.xor_u32)) rfl ?_
              clear h a w; intro a w h
              refine wv h (r_bin h rfl rfl (B.add_u32)) rfl ?_
              clear h a w; intro a w h
              rw [show (rotr V.a 2 ^^^ rotr V.a 13 ^^^ rotr V.a 22) + (V.a &&& V.b ^^^ V.a &&& V.c ^^^ V.b &&& V.c) = shaU V from rfl] at h
              refine wv h (r_assign h rfl) rfl ?_
              clear h a w; intro a w h
              refine wnil (c_then ?_)
              refine c_seq (c_region ?_)
              refine wv h (r_move h rfl) rfl ?_
              clear h a w; intro a w h
              refine wv h (r_assign h rfl) rfl ?_
              clear h a w; intro a w h
              refine wnil (c_then ?_)
              refine c_seq (c_region ?_)
              refine wv h (r_move h rfl) rfl ?_
              clear h a w; intro a w h
              refine wv h (r_assign h rfl) rfl ?_
              clear h a w; intro a w h
              refine wnil (c_then ?_)
              refine c_seq (c_region ?_)
              refine wv h (r_move h rfl) rfl ?_
              clear h a w; intro a w h
              refine wv h (r_assign h rfl) rfl ?_
              clear h a w; intro a w h
              refine wnil (c_then ?_)
              refine c_seq (c_region ?_)
              refine wv h (r_move h rfl) rfl ?_
              clear h a w; intro a w h
              refine wv h (r_move h rfl) rfl ?_
              clear h a w; intro a w h
              refine wv h (r_bin h rfl rfl (B.add_u32)) rfl ?_
              clear h a w; intro a w h
              refine wv h (r_assign h rfl) rfl ?_
              clear h a w; intro a w h
              refine wnil (c_then ?_)
              refine c_seq (c_region ?_)
              refine wv h (r_move h rfl) rfl ?_
              clear h a w; intro a w h
              refine wv h (r_assign h rfl) rfl ?_
              clear h a w; intro a w h
              refine wnil (c_then ?_)
              refine c_seq (c_region ?_)
              refine wv h (r_move h rfl) rfl ?_
              clear h a w; intro a w h
              refine wv h (r_assign h rfl) rfl ?_
              clear h a w; intro a w h
              refine wnil (c_then ?_)
              refine c_seq (c_region ?_)
              refine wv h (r_move h rfl) rfl ?_
              clear h a w; intro a w h
              refine wv h (r_assign h rfl) rfl ?_
              clear h a w; intro a w h
              refine wnil (c_then ?_)
              refine c_region ?_
              refine wv h (r_move h rfl) rfl ?_
              clear h a w; intro a w h
              refine wv h (r_move h rfl) rfl ?_
              clear h a w; intro a w h
              refine wv h (r_bin h rfl rfl (B.add_u32)) rfl ?_
              clear h a w; intro a w h
              refine wv h (r_assign h rfl) rfl ?_
              clear h a w; intro a w h
              refine wnil ?_
              refine b_normal ?_
              refine c_then ?_
              refine c_region ?_
              refine wv h (r_move h rfl) rfl ?_
              clear h a w; intro a w h
              refine wv h (r_bin h rfl rfl (B.add_i64 (by omega) (by omega))) rfl ?_
              clear h a w; intro a w h
              refine wv h (r_assign h rfl) rfl ?_
              clear h a w; intro a w h
              refine wnil ?_
              refine ⟨i + 1, ?_, (by show i + 1 ≤ 64; omega), by show 64 - (i + 1) < 64 - i; omega⟩
              rw [hrd]
              exact h.keep [2, 3, 4, 5, 8, 9, 16, 17, 18, 19, 20, 21, 22, 23, 24]
             ·
              obtain rfl : i = 64 := by omega
              generalize shaRounds hh W 64 = V at h hblk
              refine c_exit ?_
              refine e_then ?_
              refine e_then ?_
              refine e_here ?_
              refine c_then ?_
              refine c_seq (c_region ?_)
              refine wv h (r_move h rfl) rfl ?_
              clear h a w; intro a w h
              refine wv h (r_move h rfl) rfl ?_
              clear h a w; intro a w h
              refine wv h (r_move h rfl) rfl ?_
              clear h a w; intro a w h
              refine wv h (r_move h rfl) rfl ?_
              clear h a w; intro a w h
              refine wv h (r_move h rfl) rfl ?_
              clear h a w; intro a w h
              refine wv h (r_move h rfl) rfl ?_
              clear h a w; intro a w h
              refine wv h (r_move h rfl) rfl ?_
              clear h a w; intro a w h
              refine wv h (r_move h rfl) rfl ?_
              clear h a w; intro a w h
              refine wl rfl (op_buildSlice h K.u_S_uint32 K.sz_uint32 K.z_uint32 rfl rfl rfl rfl rfl (by simp [Value.cells, bv, w32, w64, sv]) rfl ?_)
              clear h a w; intro b251 a w h
              obtain ⟨vl, hvl⟩ : ∃ vl, vl = Value.slice (some ⟨b251, 0, none⟩) 8 8 := ⟨_, rfl⟩
              replace h : St 284 s a w _ (OwnL w32 (.slice (some ⟨b251, 0, none⟩) 8 8) V.lst :: OwnL w32 v9 W :: M) := h.toOwnL V.lst (NF.zero _) rfl rfl rfl
              rw [← hvl, ← hM] at h
              clear hvl
              replace h := h.front 2 rfl
              replace h : St 284 s a w _ (OwnL w32 vh hh.lst :: OwnL w32 vl V.lst :: OwnL w32 v9 W :: OwnB va pad :: Gk) := h
              generalize hK0 : (OwnL w32 vl V.lst :: OwnL w32 v9 W :: OwnB va pad :: Gk) = K0 at h
              have hvl : Views K0 1 vl 8 (V.lst.map w32) := by rw [← hK0]; exact Views.own 0 rfl
              have hD : ∀ i < 8, ∃ x y, hh.lst[i]? = some x ∧ V.lst[i]? = some y ∧ (shaAdd hh V).lst[i]? = some (x + y) := by
                intro i hi
                have : i = 0 ∨ i = 1 ∨ i = 2 ∨ i = 3 ∨ i = 4 ∨ i = 5 ∨ i = 6 ∨ i = 7 := by omega
                rcases this with rfl | rfl | rfl | rfl | rfl | rfl | rfl | rfl <;> exact ⟨_, _, rfl, rfl, rfl⟩
              have hvll : V.lst.length = 8 := rfl
              have hadl : (shaAdd hh V).lst.length = 8 := rfl
              refine wv h (r_assign h rfl) rfl ?_
              clear h a w; intro a w h
              refine wnil (c_then ?_)
              refine c_seq (c_region ?_)
              refine wv h (r_assign h rfl) rfl ?_
              clear h a w; intro a w h
              rw [show hh.lst = (shaAdd hh V).lst.take 0 ++ hh.lst.drop 0 by simp] at h
              refine wnil (c_then ?_)
              refine c_block ?_
              refine c_loopX h (X := Nat) (fun i => [(2, .pointer (some ⟨b2, 0, none⟩)), (3, vk), (4, vh), (5, va), (8, .int .i64 ((64 * k : Nat) : Int)), (27, vl), (28, .int .i64 (i : Int))])
                (fun i => OwnL w32 vh ((shaAdd hh V).lst.take i ++ hh.lst.drop i) :: K0) (fun i => i ≤ 8) (fun i => 8 - i) 0 (h.keep [2, 3, 4, 5, 8, 27, 28]) (Nat.zero_le _) ?_
              clear h a w; intro i a w hx h
              as_aux_lemma =>
               refine c_seq ?_
               refine c_seq (c_region ?_)
               refine wv h (r_move h rfl) rfl ?_
               clear h a w; intro a w h
               refine wv h (r_bin h rfl rfl (B.lss_int)) rfl ?_
               clear h a w; intro a w h
               refine wnil (c_then ?_)
               refine c_condD h rfl (fun ht8 => ?_) (fun ht8 => ?_)
               ·
                obtain ⟨x, y, hx1, hx2, hx3⟩ := hD i (by omega)
                have hov := arr_over (shaAdd hh V).lst hh.lst _ i hx3 rfl
                have hxx : ((shaAdd hh V).lst.take i ++ hh.lst.drop i).getD i 0 = x := by
                  have hl : ((shaAdd hh V).lst.take i).length = i := by rw [List.length_take]; omega
                  rw [List.getD_eq_getElem?_getD, List.getElem?_append_right (by omega), hl, Nat.sub_self, List.getElem?_drop]; simpa using by rw [hx1]; rfl
                have hyy : V.lst.getD i 0 = y := by rw [List.getD_eq_getElem?_getD, hx2]; rfl
                refine c_skip ?_
                refine c_then ?_
                refine c_seq ?_
                refine c_block ?_
                refine c_tail 10 K.mixed (by kernel_rfl) h ?_
                clear h a w; intro a w h
                refine yv h (r_move h rfl) rfl ?_
                clear h a; intro a h
                refine yv h (r_move h rfl) rfl ?_
                clear h a; intro a h
                refine yv h (r_elP h rfl rfl K.u_S_uint32 K.sz_uint32 (by exact Views.own 0 rfl) (by omega) (by (simp; omega))) rfl ?_
                clear h a; intro a h
                refine yv h (r_el32 h rfl K.u_uint32 rfl (by exact Views.own 0 rfl) (by (simp; omega))) rfl ?_
                clear h a; intro a h
                rw [hxx] at h
                refine yv h (r_move h rfl) rfl ?_
                clear h a; intro a h
                refine yv h (r_move h rfl) rfl ?_
                clear h a; intro a h
                refine yv h (r_elP h rfl rfl K.u_S_uint32 K.sz_uint32 (by exact Views.cons (by assumption) _) (by omega) (by omega)) rfl ?_
                clear h a; intro a h
                refine yv h (r_el32 h rfl K.u_uint32 rfl (by exact Views.cons (by assumption) _) (by omega)) rfl ?_
                clear h a; intro a h
                rw [hyy] at h
                refine yv h (r_bin h rfl rfl (B.add_u32)) rfl ?_
                clear h a; intro a h
                refine yv h (r_elP h rfl rfl K.u_S_uint32 K.sz_uint32 (by exact Views.own 0 rfl) (by omega) (by (simp; omega))) rfl ?_
                clear h a; intro a h
                refine ynil ?_
                refine wl rfl (op_storeL (enc := w32) (fun _ => rfl) h rfl rfl K.sz_uint32 0 rfl (by (simp; omega)) ?_)
                clear h a w; intro a w h
                (simp only [List.set_cons_zero, List.set_cons_succ] at h)
                rw [hov] at h
                refine wnil ?_
                refine b_normal ?_
                refine c_then ?_
                refine c_region ?_
                refine wv h (r_move h rfl) rfl ?_
                clear h a w; intro a w h
                refine wv h (r_bin h rfl rfl (B.add_i64 (by omega) (by omega))) rfl ?_
                clear h a w; intro a w h
                refine wv h (r_assign h rfl) rfl ?_
                clear h a w; intro a w h
                refine wnil ?_
                exact ⟨i + 1, h.keep [2, 3, 4, 5, 8, 27, 28], (by show i + 1 ≤ 8; omega), by show 8 - (i + 1) < 8 - i; omega⟩
               ·
                obtain rfl : i = 8 := by omega
                rw [show (shaAdd hh V).lst.take 8 ++ hh.lst.drop 8 = (shaAdd hh V).lst from rfl, ← hK0, ← hblk] at h
                replace h := (h.rid 1).rid 1
                replace h : St 284 s a w _ (OwnL w32 vh (shaBlock hh blk).lst :: OwnB va pad :: Gk) := h
                refine c_exit ?_
                refine e_then ?_
                refine e_then ?_
                refine e_here ?_
                refine b_normal ?_
                refine c_then ?_
                refine c_region ?_
                refine wv h (r_move h rfl) rfl ?_
                clear h a w; intro a w h
                refine wv h (r_bin h rfl rfl (B.add_i64 (by omega) (by omega))) rfl ?_
                clear h a w; intro a w h
                refine wv h (r_assign h rfl) rfl ?_
                clear h a w; intro a w h
                refine wnil ?_
                rw [show ((64 * k : Nat) : Int) + 64 = ((64 * (k + 1) : Nat) : Int) by omega] at h
                refine ⟨(k + 1, shaBlock hh blk), h.keep [2, 3, 4, 5, 8], ⟨?_, ?_⟩, ?_⟩
                · show 64 * (k + 1) ≤ pad.length; omega
                · show shaAll _ _ _ = R; rw [← hst]; exact hx2
                · show pad.length - 64 * (k + 1) < pad.length - 64 * k; omega
       ·
        have h0 : (pad.drop (64 * k)).length = 0 := by rw [List.length_drop]; omega
        rw [h0] at hx2
        obtain rfl : hh = R := hx2
        have hDl : (hh.lst.flatMap shaBytes).length = 32 := by simp [Sha8.lst, shaBytes]
        have hget := sha_get1 hh
        have hll : hh.lst.length = 8 := rfl
        rw [← hGk] at h
        generalize hDD : hh.lst.flatMap shaBytes = D at *
        refine c_exit ?_
        refine e_then ?_
        refine e_then ?_
        refine e_here ?_
        refine c_then ?_
        refine c_seq (c_region ?_)
        refine wl rfl (op_alloc h K.z_A32_uint8 rfl ?_)
        clear h a w; intro b29 a w h
        rw [show (Value.agg (Array.replicate 32 (Value.int .u8 0))).cells = arr8 (List.replicate 32 0) from (arr8_zero 32).symm] at h
        generalize hH : (OwnL w32 vh hh.lst :: OwnB va pad :: OwnL w32 vk shaK :: Blk b2 (.cells (arr8 (List.replicate 32 0)) t_A32_uint8) :: F) = H at h
        have hvH : Views H 1 vh 8 (hh.lst.map w32) := by rw [← hH]; exact Views.own 0 rfl
        rw [show Blk b29 (Obj.cells (arr8 (List.replicate 32 0)) t_A32_uint8) = Blk b29 (.cells (arr8 (D.take 0 ++ List.replicate (32 - 0) 0)) t_A32_uint8) from rfl] at h
        refine wnil (c_then ?_)
        refine c_seq ?_
        refine c_seq (c_region ?_)
        refine wv h (r_assign h rfl) rfl ?_
        clear h a w; intro a w h
        refine wnil (c_then ?_)
        refine c_block ?_
        refine c_loopX h (X := Nat) (fun i => [(2, .pointer (some ⟨b2, 0, none⟩)), (4, vh), (29, .pointer (some ⟨b29, 0, none⟩)), (30, .int .i64 (i : Int))])
          (fun i => Blk b29 (.cells (arr8 (D.take i ++ List.replicate (32 - i) 0)) t_A32_uint8) :: H) (fun i => i ≤ 32) (fun i => 32 - i) 0 (h.keep [2, 4, 29, 30]) (Nat.zero_le _) ?_
        clear h a w; intro i a w hx h
        as_aux_lemma =>
         refine c_seq ?_
         refine c_seq (c_region ?_)
         refine wv h (r_move h rfl) rfl ?_
         clear h a w; intro a w h
         refine wv h (r_bin h rfl rfl (B.lss_int)) rfl ?_
         clear h a w; intro a w h
         refine wnil (c_then ?_)
         refine c_condD h rfl (fun ht9 => ?_) (fun ht9 => ?_)
         ·
          have hgi := hget i (by omega)
          have hfl := arr_fill D 0 _ _ hgi
          rw [hDl] at hfl
          refine c_skip ?_
          refine c_then ?_
          refine c_seq ?_
          refine c_block ?_
          refine c_region ?_
          refine wv h (r_move h rfl) rfl ?_
          clear h a w; intro a w h
          refine wv h (r_move h rfl) rfl ?_
          clear h a w; intro a w h
          refine wv h (r_move h rfl) rfl ?_
          clear h a w; intro a w h
          refine wv h (r_bin h rfl rfl (B.quo_i64 (by omega) (by omega) (by omega))) rfl ?_
          clear h a w; intro a w h
          refine wv h (r_elP h rfl rfl K.u_S_uint32 K.sz_uint32 (by exact Views.cons (by assumption) _) (by omega) (by omega)) rfl ?_
          clear h a w; intro a w h
          refine wv h (r_el32 h rfl K.u_uint32 rfl (by exact Views.cons (by assumption) _) (by omega)) rfl ?_
          clear h a w; intro a w h
          refine wv h (r_move h rfl) rfl ?_
          clear h a w; intro a w h
          refine wv h (r_bin h rfl rfl (B.rem_i64 (by omega) (by omega))) rfl ?_
          clear h a w; intro a w h
          refine wv h (r_bin h rfl rfl (B.mul_i64 (by omega) (by omega))) rfl ?_
          clear h a w; intro a w h
          refine wv h (r_bin h rfl rfl (B.sub_i64 (by omega) (by omega))) rfl ?_
          clear h a w; intro a w h
          refine wv h (r_bin h rfl rfl (B.shr_u32 (by omega))) rfl ?_
          clear h a w; intro a w h
          refine wv h (r_conv h rfl K.u_uint32 K.u_uint8 (C.u8_u32) ) rfl ?_
          clear h a w; intro a w h
          rw [toUInt8_ofNat32, show (24 - 8 * ((i : Int) % 4)).toNat = 24 - 8 * (i % 4) by omega] at h
          refine wv h (r_arP h rfl rfl K.u_A32_uint8 K.sz_uint8 (by omega) (by omega)) rfl ?_
          clear h a w; intro a w h
          refine wl rfl (op_store8 h rfl rfl K.sz_uint8 0 rfl (by (simp; omega)) ?_)
          clear h a w; intro a w h
          (simp only [List.set_cons_zero, List.set_cons_succ] at h)
          rw [hfl] at h
          refine wnil ?_
          refine b_normal ?_
          refine c_then ?_
          refine c_region ?_
          refine wv h (r_move h rfl) rfl ?_
          clear h a w; intro a w h
          refine wv h (r_bin h rfl rfl (B.add_i64 (by omega) (by omega))) rfl ?_
          clear h a w; intro a w h
          refine wv h (r_assign h rfl) rfl ?_
          clear h a w; intro a w h
          refine wnil ?_
          exact ⟨i + 1, h.keep [2, 4, 29, 30], (by show i + 1 ≤ 32; omega), by show 32 - (i + 1) < 32 - i; omega⟩
         ·
          obtain rfl : i = 32 := by omega
          rw [← hH, show D.take 32 ++ List.replicate (32 - 32) (0 : UInt8) = sha p by rw [hsha, List.take_of_length_le (by omega)]; simp] at h
          refine c_exit ?_
          refine e_then ?_
          refine e_then ?_
          refine e_here ?_
          refine c_then ?_
          refine c_seq (c_region ?_)
          refine wv h (r_loadA8 h rfl K.u_A32_uint8 rfl K.sz_A32_uint8 0 rfl (by rfl)) rfl ?_
          clear h a w; intro a w h
          refine wl rfl (op_storeA8 h rfl rfl K.sz_A32_uint8 (sha_len p) 4 rfl rfl ?_)
          clear h a w; intro a w h
          simp only [List.set_cons_zero, List.set_cons_succ] at h
          refine wnil (c_then ?_)
          refine c_ret ?_
          exact retc h rfl rfl K.u_A32_uint8 rfl K.sz_A32_uint8 4 rfl (by rw [arr8_size, sha_len]) ⟨(), rfl, h.2.drop 5, trivial⟩
end Go.Proofs.K

/- The reference's packs: objects by their keys; a pack. -/
namespace Go.Sl
theorem key_eq (p q : List UInt8) : (decide (sha p = sha q)) = decide (keyO p = keyO q) := by
  by_cases h : sha p = sha q
  · rw [decide_eq_true h, decide_eq_true (show keyO p = keyO q from BA.ext' h)]
  · rw [decide_eq_false h, decide_eq_false (fun e => h (congrArg BA.val e))]
theorem slv_one (x : SlV) : x.v.oneCell' = true := rfl
/-- the first so many that are moved up by one -/
def gapL (O : List SlV) (j : Nat) (d : SlV) : List SlV := O.take j ++ d :: O.drop j
theorem gapL_len (O : List SlV) (j : Nat) (d : SlV) : (gapL O j d).length = O.length + 1 := by simp [gapL]; omega
theorem gapL_end (O : List SlV) (d : SlV) : O ++ [d] = gapL O O.length d := by simp [gapL]
theorem gapL_get {O : List SlV} {j : Nat} {d y : SlV} (hy : O[j]? = some y) : (gapL O (j + 1) d)[j]? = some y := by
  have hlt := (List.getElem?_eq_some_iff.1 hy).1
  rw [gapL, List.getElem?_append_left (by simp; omega), List.getElem?_take_of_lt (by omega), hy]
theorem gapL_set {O : List SlV} {j : Nat} (d y : SlV) (hj : j ≤ O.length) : (gapL O j d).set j y = gapL O j y := by
  have : (O.take j).length = j := by simp; omega
  rw [gapL, List.set_append_right _ _ (by omega), this, Nat.sub_self]; rfl
theorem gapL_down {O : List SlV} {j : Nat} {y : SlV} (hy : O[j]? = some y) : gapL O (j + 1) y = gapL O j y := by
  obtain ⟨hlt, e⟩ := List.getElem?_eq_some_iff.1 hy
  unfold gapL
  rw [List.take_add_one, hy, List.drop_eq_getElem_cons hlt, e]; simp
end Go.Sl
namespace Go.Proofs.K
open Go.Sl
attribute [local irreducible] Go.Sl.Own Go.Sl.Blk Go.Sl.Sep Go.Sl.Ex Go.Sl.Fact
theorem ref_Sorted (s w : World) (v : Value) (xs : List SlV) (F : List HItem) (hv : Views F 1 v xs.length (xs.flatMap cellsS)) (hp : ∀ x ∈ xs, ViewsB F x.v x.p ∧ x.p.length ≤ 2147483648) (hl : xs.length ≤ 4000000) (hs : Sat s w F) :
    Calls P n_ref15_Sorted #[v] w (Ret s (fun v' : Value => v') (fun v' => OwnL SlV.v v' (srtx xs) :: F) (fun _ => True)) := by
  refine enter K.fn_ref15_Sorted rfl K.nt_ref15_Sorted rfl hs ?_
  clear hs w; intro a w h
  refine c_seq (c_region ?_)
  refine wv h (r_assign h rfl) rfl ?_
  clear h a w; intro a w h
  refine wnil (c_then ?_)
  refine c_seq (c_region ?_)
  refine wv h (r_assign h rfl) rfl ?_
  clear h a w; intro a w h
  refine wnil (c_then ?_)
  refine c_seq ?_
  refine c_seq (c_region ?_)
  refine wv h (r_assign h rfl) rfl ?_
  clear h a w; intro a w h
  refine wnil (c_then ?_)
  refine c_block ?_
  replace h := h.addNilL (enc := SlV.v)
  refine c_loop (X := Nat × Value) (fun z => [(0, v), (3, z.2), (4, .int .i64 (z.1 : Int))]) (fun z => OwnL SlV.v z.2 (srtx (xs.take z.1)) :: F) (fun z => z.1 ≤ xs.length) (fun z => xs.length - z.1) (0, .slice none 0 0) (h.keep [0, 3, 4]) (Nat.zero_le _) ?_
  clear h a w; intro z a w hz h
  obtain ⟨i, ov⟩ := z
  simp only at hz h
  as_aux_lemma =>
   refine c_seq ?_
   refine c_seq (c_region ?_)
   refine wv h (r_move h rfl) rfl ?_
   clear h a w; intro a w h
   refine wv h (r_move h rfl) rfl ?_
   clear h a w; intro a w h
   refine wv h (r_lenV h rfl K.u_S_S_uint8 (by exact Views.of_drop 1 (by assumption))) rfl ?_
   clear h a w; intro a w h
   refine wv h (r_bin h rfl rfl (B.lss_int)) rfl ?_
   clear h a w; intro a w h
   refine wnil (c_then ?_)
   refine c_condP (p := i < xs.length) h rfl (by simp) (fun ht1 => ?_) (fun ht1 => ?_)
   ·
    obtain ⟨x, hx⟩ : ∃ x, xs[i]? = some x := ⟨_, List.getElem?_eq_getElem ht1⟩
    obtain ⟨hxv, hxl⟩ := hp x (List.mem_of_getElem? hx)
    have tx : xs.take (i + 1) = xs.take i ++ [x] := by rw [List.take_add_one, hx]; rfl
    have hxc : (xs.flatMap cellsS)[i * 1]? = some x.v := by rw [flatS, Nat.mul_one, List.getElem?_map, hx]; rfl
    obtain ⟨O, hO⟩ : ∃ O, O = srtx (xs.take i) := ⟨_, rfl⟩
    have hOs : SS (O.map itm) := by rw [hO]; exact srtx_ss _
    have hOm : ∀ y ∈ O, ViewsB F y.v y.p ∧ y.p.length ≤ 2147483648 := fun y hy => hp y (List.mem_of_mem_take (srtx_mem (hO ▸ hy)))
    have hOl : O.length ≤ i := by rw [hO]; have := srtx_len (xs.take i); rw [List.length_take] at this; omega
    have hth : hasK O (keyO x.p) = true → srtx (xs.take (i + 1)) = O := fun q => by rw [tx, hO]; exact srtx_there (hO ▸ q)
    have hpt : ∀ q, hasK O (keyO x.p) = false → AtI O x O.length q → srtx (xs.take (i + 1)) = gapL O q x := fun q h1 h2 => by
      rw [tx]; subst hO
      exact srtx_put h1 h2.less (fun k y hk hy => h2.more k y hk (List.getElem?_eq_some_iff.1 hy).1 hy)
    rw [← hO] at h
    clear hO tx
    refine c_skip ?_
    refine c_then ?_
    refine c_seq ?_
    refine c_block ?_
    refine c_seq (c_region ?_)
    refine wv h (r_move h rfl) rfl ?_
    clear h a w; intro a w h
    refine wv h (r_move h rfl) rfl ?_
    clear h a w; intro a w h
    refine wv h (r_elPv h rfl rfl K.u_S_S_uint8 K.sz_S_uint8 (hv.cons _) i rfl ht1) rfl ?_
    clear h a w; intro a w h
    refine wv h (r_elG h rfl K.u_S_uint8 rfl (hv.cons _) hxc) rfl ?_
    clear h a w; intro a w h
    refine wl rfl (op_call h rfl K.go_ref01_Stamp (ref_Stamp s _ x.v x.p _ (hxv.cons _) hxl h.2) rfl ?_)
    clear h a w; intro z21 a w hz21 h
    have hsl := sha_len x.p
    refine wl rfl (op_alloc h K.z_A32_uint8 rfl ?_)
    clear h a w; intro b5 a w h
    rw [show (Value.agg (Array.replicate 32 (Value.int .u8 0))).cells = arr8 (List.replicate 32 0) from (arr8_zero 32).symm] at h
    refine wl rfl (op_storeA8 h rfl rfl K.sz_A32_uint8 (by rfl) 0 rfl (by rfl) ?_)
    clear h a w; intro a w h
    (simp only [List.set_cons_zero, List.set_cons_succ] at h)
    refine wnil (c_then ?_)
    refine c_seq (c_region ?_)
    refine wv h (r_assign h rfl) rfl ?_
    clear h a w; intro a w h
    refine wnil (c_then ?_)
    refine c_seq (c_region ?_)
    refine wv h (r_assign h rfl) rfl ?_
    clear h a w; intro a w h
    refine wnil (c_then ?_)
    refine c_seq ?_
    refine c_seq (c_region ?_)
    refine wv h (r_assign h rfl) rfl ?_
    clear h a w; intro a w h
    refine wnil (c_then ?_)
    refine c_block ?_
    refine c_loop (X := Nat × Nat) (fun z => [(0, v), (3, ov), (4, .int .i64 (i : Int)), (5, bp b5), (6, .int .i64 (z.2 : Int)), (7, .bool (hasK (O.take z.1) (keyO x.p))), (8, .int .i64 (z.1 : Int))]) (fun _ => Blk b5 (.cells (arr8 (sha x.p)) t_A32_uint8) :: OwnL SlV.v ov O :: F) (fun z => z.1 ≤ O.length ∧ AtI O x z.1 z.2) (fun z => O.length - z.1) (0, 0) (h.keep [0, 3, 4, 5, 6, 7, 8]) ⟨Nat.zero_le _, AtI.zero O x⟩ ?_
    clear h a w; intro z a w hz h
    obtain ⟨j, at_⟩ := z
    obtain ⟨z1, z2⟩ := hz
    simp only at z1 z2 h
    as_aux_lemma =>
     refine c_seq ?_
     refine c_seq (c_region ?_)
     refine wv h (r_move h rfl) rfl ?_
     clear h a w; intro a w h
     refine wv h (r_move h rfl) rfl ?_
     clear h a w; intro a w h
     refine wv h (r_lenV h rfl K.u_S_S_uint8 (by exact Views.own 1 rfl)) rfl ?_
     clear h a w; intro a w h
     refine wv h (r_bin h rfl rfl (B.lss_int)) rfl ?_
     clear h a w; intro a w h
     refine wnil (c_then ?_)
     refine c_condP (p := j < O.length) h rfl (by simp) (fun ht2 => ?_) (fun ht2 => ?_)
     ·
      obtain ⟨y, hy⟩ : ∃ y, O[j]? = some y := ⟨_, List.getElem?_eq_getElem ht2⟩
      obtain ⟨hyv, hyl⟩ := hOm y (List.mem_of_getElem? hy)
      have hyc : (O.map SlV.v)[j * 1]? = some y.v := by rw [Nat.mul_one, List.getElem?_map, hy]; rfl
      have hsm := sha_len y.p
      have htk : hasK (O.take (j + 1)) (keyO x.p) = (hasK (O.take j) (keyO x.p) || decide (sha y.p = sha x.p)) := by rw [List.take_add_one, hy]; simp [hasK, key_eq]
      refine c_skip ?_
      refine c_then ?_
      refine c_seq ?_
      refine c_block ?_
      refine c_seq (c_region ?_)
      refine wv h (r_move h rfl) rfl ?_
      clear h a w; intro a w h
      refine wv h (r_move h rfl) rfl ?_
      clear h a w; intro a w h
      refine wv h (r_elPv h rfl rfl K.u_S_S_uint8 K.sz_S_uint8 (Views.own 1 rfl) j rfl ht2) rfl ?_
      clear h a w; intro a w h
      refine wv h (r_elG h rfl K.u_S_uint8 rfl (Views.own 1 rfl) hyc) rfl ?_
      clear h a w; intro a w h
      refine wl rfl (op_call h rfl K.go_ref01_Stamp (ref_Stamp s _ y.v y.p _ ((hyv.cons _).cons _) hyl h.2) rfl ?_)
      clear h a w; intro z32 a w hz32 h
      refine wl rfl (op_alloc h K.z_A32_uint8 rfl ?_)
      clear h a w; intro b9 a w h
      rw [show (Value.agg (Array.replicate 32 (Value.int .u8 0))).cells = arr8 (List.replicate 32 0) from (arr8_zero 32).symm] at h
      refine wl rfl (op_storeA8 h rfl rfl K.sz_A32_uint8 (by rfl) 0 rfl (by rfl) ?_)
      clear h a w; intro a w h
      (simp only [List.set_cons_zero, List.set_cons_succ] at h)
      refine wnil (c_then ?_)
      refine c_seq ?_
      refine c_seq (c_draw K.mixed (by kernel_rfl) h ?_)
      clear h a w; intro a hE
      refine qv hE (fun w hw => r_sliceA ⟨hE, hw⟩ rfl K.u_A32_uint8 K.sz_uint8 rfl) rfl ?_
      clear hE a; intro a hE
      refine qv hE (fun w hw => r_b2sb ⟨hE, hw⟩ rfl K.u_S_uint8 K.u_uint8 K.u_string (by exact ViewsB.arr 0 rfl (by assumption) (Nat.le_refl _) (by simp [maxLen]))) rfl ?_
      clear hE a; intro a hE
      refine qv hE (fun w hw => r_sliceA ⟨hE, hw⟩ rfl K.u_A32_uint8 K.sz_uint8 rfl) rfl ?_
      clear hE a; intro a hE
      refine qv hE (fun w hw => r_b2sb ⟨hE, hw⟩ rfl K.u_S_uint8 K.u_uint8 K.u_string (by exact ViewsB.arr 1 rfl (by assumption) (Nat.le_refl _) (by simp [maxLen]))) rfl ?_
      clear hE a; intro a hE
      refine qv hE (fun w hw => r_strless ⟨hE, hw⟩ rfl rfl) rfl ?_
      clear hE a; intro a hE
      refine qnil hE ?_
      clear hE a; intro a w h
      refine c_then ?_
      refine c_condP (p := lt (itm y) (itm x) = true) h rfl (by simp [lt, itm, keyO]) (fun ht3 => ?_) (fun ht3 => ?_)
      ·
       as_aux_lemma =>
        refine c_region ?_
        refine wv h (r_move h rfl) rfl ?_
        clear h a w; intro a w h
        refine wv h (r_bin h rfl rfl (B.add_i64 (by omega) (by omega))) rfl ?_
        clear h a w; intro a w h
        refine wv h (r_assign h rfl) rfl ?_
        clear h a w; intro a w h
        refine wnil ?_
        refine c_then ?_
        refine c_region ?_
        refine wv h (r_move h rfl) rfl ?_
        clear h a w; intro a w h
        refine wv h (r_move h rfl) rfl ?_
        clear h a w; intro a w h
        refine wvG h (by exact .f rfl) (fun hg => by (have hg2 := hg; (simp only [Bool.and_eq_true, Bool.or_eq_true, Bool.not_eq_true', decide_eq_true_eq, decide_eq_false_iff_not] at hg2)); exact r_loadA8 h rfl K.u_A32_uint8 rfl K.sz_A32_uint8 0 rfl (by rfl)) rfl ?_
        clear h a w; intro a w h
        refine wvG h (by exact .f rfl) (fun hg => by (simp only [↓gval_on hg, ↓gval_and hg] at h); (have hg2 := hg; (simp only [Bool.and_eq_true, Bool.or_eq_true, Bool.not_eq_true', decide_eq_true_eq, decide_eq_false_iff_not] at hg2)); exact r_loadA8 h rfl K.u_A32_uint8 rfl K.sz_A32_uint8 1 rfl (by rfl)) rfl ?_
        clear h a w; intro a w h
        refine wvG h (by exact .f rfl) (fun hg => by (simp only [↓gval_on hg, ↓gval_and hg] at h); (have hg2 := hg; (simp only [Bool.and_eq_true, Bool.or_eq_true, Bool.not_eq_true', decide_eq_true_eq, decide_eq_false_iff_not] at hg2)); exact r_arreq h rfl rfl K.u_A32_uint8 K.u_uint8 K.sz_uint8 (by kernel_rfl) (by rfl) (by rfl)) rfl ?_
        clear h a w; intro a w h
        refine wv h (r_pickO h rfl rfl rfl) rfl ?_
        clear h a w; intro a w h
        refine wv h (r_assign h rfl) rfl ?_
        clear h a w; intro a w h
        refine wnil ?_
        refine b_normal ?_
        refine c_then ?_
        refine c_region ?_
        refine wv h (r_move h rfl) rfl ?_
        clear h a w; intro a w h
        refine wv h (r_bin h rfl rfl (B.add_i64 (by omega) (by omega))) rfl ?_
        clear h a w; intro a w h
        refine wv h (r_assign h rfl) rfl ?_
        clear h a w; intro a w h
        refine wnil ?_
        rw [← htk] at h
        exact ⟨(j + 1, j + 1), (h.keep [0, 3, 4, 5, 6, 7, 8]).drop 1, ⟨ht2, z2.yes hOs hy ht3⟩, by simp only; omega⟩
      ·
       refine c_skip ?_
       refine c_then ?_
       refine c_region ?_
       refine wv h (r_move h rfl) rfl ?_
       clear h a w; intro a w h
       refine wv h (r_move h rfl) rfl ?_
       clear h a w; intro a w h
       refine wvG h (by exact .f rfl) (fun hg => by (have hg2 := hg; (simp only [Bool.and_eq_true, Bool.or_eq_true, Bool.not_eq_true', decide_eq_true_eq, decide_eq_false_iff_not] at hg2)); exact r_loadA8 h rfl K.u_A32_uint8 rfl K.sz_A32_uint8 0 rfl (by rfl)) rfl ?_
       clear h a w; intro a w h
       refine wvG h (by exact .f rfl) (fun hg => by (simp only [↓gval_on hg, ↓gval_and hg] at h); (have hg2 := hg; (simp only [Bool.and_eq_true, Bool.or_eq_true, Bool.not_eq_true', decide_eq_true_eq, decide_eq_false_iff_not] at hg2)); exact r_loadA8 h rfl K.u_A32_uint8 rfl K.sz_A32_uint8 1 rfl (by rfl)) rfl ?_
       clear h a w; intro a w h
       refine wvG h (by exact .f rfl) (fun hg => by (simp only [↓gval_on hg, ↓gval_and hg] at h); (have hg2 := hg; (simp only [Bool.and_eq_true, Bool.or_eq_true, Bool.not_eq_true', decide_eq_true_eq, decide_eq_false_iff_not] at hg2)); exact r_arreq h rfl rfl K.u_A32_uint8 K.u_uint8 K.sz_uint8 (by kernel_rfl) (by rfl) (by rfl)) rfl ?_
       clear h a w; intro a w h
       refine wv h (r_pickO h rfl rfl rfl) rfl ?_
       clear h a w; intro a w h
       refine wv h (r_assign h rfl) rfl ?_
       clear h a w; intro a w h
       refine wnil ?_
       refine b_normal ?_
       refine c_then ?_
       refine c_region ?_
       refine wv h (r_move h rfl) rfl ?_
       clear h a w; intro a w h
       refine wv h (r_bin h rfl rfl (B.add_i64 (by omega) (by omega))) rfl ?_
       clear h a w; intro a w h
       refine wv h (r_assign h rfl) rfl ?_
       clear h a w; intro a w h
       refine wnil ?_
       rw [← htk] at h
       exact ⟨(j + 1, at_), (h.keep [0, 3, 4, 5, 6, 7, 8]).drop 1, ⟨ht2, z2.no hy (by simpa using ht3)⟩, by simp only; omega⟩
     ·
      obtain rfl : j = O.length := by omega
      rw [List.take_length] at h
      replace h := h.mem (fun q => q.tail)
      refine c_exit ?_
      refine e_then ?_
      refine e_then ?_
      refine e_here ?_
      refine c_then ?_
      refine c_seq ?_
      refine c_seq (c_region ?_)
      refine wv h (r_move h rfl) rfl ?_
      clear h a w; intro a w h
      refine wnil (c_then ?_)
      refine c_condP (p := hasK O (keyO x.p) = true) h rfl Iff.rfl (fun ht4 => ?_) (fun ht4 => ?_)
      ·
       as_aux_lemma =>
        refine c_exit ?_
        refine e_then ?_
        refine e_here ?_
        refine c_then ?_
        refine c_region ?_
        refine wv h (r_move h rfl) rfl ?_
        clear h a w; intro a w h
        refine wv h (r_bin h rfl rfl (B.add_i64 (by omega) (by omega))) rfl ?_
        clear h a w; intro a w h
        refine wv h (r_assign h rfl) rfl ?_
        clear h a w; intro a w h
        refine wnil ?_
        have e : srtx (xs.take (i + 1)) = O := hth ht4
        refine ⟨(i + 1, ov), ?_, ht1, by simp only; omega⟩
        show St 74 s a w _ (OwnL SlV.v ov (srtx (xs.take (i + 1))) :: F)
        rw [e]
        exact h.keep [0, 3, 4]
      ·
       have hnk : hasK O (keyO x.p) = false := by simpa using ht4
       refine c_skip ?_
       refine c_then ?_
       refine c_seq (c_region ?_)
       refine wv h (r_move h rfl) rfl ?_
       clear h a w; intro a w h
       refine wl rfl (op_buildO h K.u_S_S_uint8 K.sz_S_uint8 K.z_S_uint8 rfl rfl rfl rfl (by simp only [List.mem_cons, List.not_mem_nil, or_false, forall_eq_or_imp, forall_eq]; (repeat' apply And.intro) <;> rfl) rfl ?_)
       clear h a w; intro b48 a w h
       refine wl rfl (op_appendL1 (enc := SlV.v) (u := ⟨none, 0, 0, []⟩) h rfl rfl rfl K.u_S_S_uint8 K.sz_S_uint8 K.z_S_uint8 rfl rfl 0 rfl (by omega) rfl ?_)
       clear h a w; intro v49 a w h
       simp only [List.set_cons_zero] at h
       rw [gapL_end] at h
       have hgl0 := gapL_len O O.length ⟨none, 0, 0, []⟩
       refine wv h (r_assign h rfl) rfl ?_
       clear h a w; intro a w h
       refine wnil (c_then ?_)
       refine c_seq ?_
       refine c_seq (c_region ?_)
       refine wv h (r_move h rfl) rfl ?_
       clear h a w; intro a w h
       refine wv h (r_lenV h rfl K.u_S_S_uint8 (by exact Views.own 0 rfl)) rfl ?_
       clear h a w; intro a w h
       refine wv h (r_bin h rfl rfl (B.sub_i64 (by omega) (by omega))) rfl ?_
       clear h a w; intro a w h
       rw [show ((gapL O O.length ⟨none, 0, 0, []⟩).length : Int) - 1 = (O.length : Int) by omega] at h
       refine wv h (r_assign h rfl) rfl ?_
       clear h a w; intro a w h
       refine wnil (c_then ?_)
       refine c_block ?_
       refine c_loop (X := Nat × SlV) (fun z => [(0, v), (3, v49), (4, .int .i64 (i : Int)), (6, .int .i64 (at_ : Int)), (10, .int .i64 (z.1 : Int))]) (fun z => OwnL SlV.v v49 (gapL O z.1 z.2) :: F) (fun z => at_ ≤ z.1 ∧ z.1 ≤ O.length) (fun z => z.1) (O.length, ⟨none, 0, 0, []⟩) (h.keep [0, 3, 4, 6, 10]) ⟨z2.le, Nat.le_refl _⟩ ?_
       clear h a w; intro z a w hz h
       obtain ⟨j, d⟩ := z
       obtain ⟨y1, y2⟩ := hz
       simp only at y1 y2 h
       have hgl := gapL_len O j d
       as_aux_lemma =>
        refine c_seq ?_
        refine c_seq (c_region ?_)
        refine wv h (r_move h rfl) rfl ?_
        clear h a w; intro a w h
        refine wv h (r_move h rfl) rfl ?_
        clear h a w; intro a w h
        refine wv h (r_bin h rfl rfl (B.gtr_int)) rfl ?_
        clear h a w; intro a w h
        refine wnil (c_then ?_)
        refine c_condP (p := at_ < j) h rfl (by simp) (fun ht5 => ?_) (fun ht5 => ?_)
        ·
         obtain ⟨k, rfl⟩ : ∃ k, j = k + 1 := ⟨j - 1, by omega⟩
         obtain ⟨y, hy⟩ : ∃ y, O[k]? = some y := ⟨_, List.getElem?_eq_getElem (by omega)⟩
         have hyc : ((gapL O (k + 1) d).map SlV.v)[k * 1]? = some y.v := by rw [Nat.mul_one, List.getElem?_map, gapL_get hy]; rfl
         refine c_skip ?_
         refine c_then ?_
         refine c_seq ?_
         refine c_block ?_
         refine c_region ?_
         refine wv h (r_move h rfl) rfl ?_
         clear h a w; intro a w h
         refine wv h (r_move h rfl) rfl ?_
         clear h a w; intro a w h
         refine wv h (r_move h rfl) rfl ?_
         clear h a w; intro a w h
         refine wv h (r_move h rfl) rfl ?_
         clear h a w; intro a w h
         refine wv h (r_bin h rfl rfl (B.sub_i64 (by omega) (by omega))) rfl ?_
         clear h a w; intro a w h
         refine wv h (r_elPv h rfl rfl K.u_S_S_uint8 K.sz_S_uint8 (Views.own 0 rfl) k (by omega) (by omega)) rfl ?_
         clear h a w; intro a w h
         refine wv h (r_elG h rfl K.u_S_uint8 rfl (Views.own 0 rfl) hyc) rfl ?_
         clear h a w; intro a w h
         refine wv h (r_elPv h rfl rfl K.u_S_S_uint8 K.sz_S_uint8 (Views.own 0 rfl) (k + 1) rfl (by omega)) rfl ?_
         clear h a w; intro a w h
         refine wl rfl (op_storeL (enc := SlV.v) (u := y) slv_one h rfl rfl K.sz_S_uint8 0 rfl (by omega) ?_)
         clear h a w; intro a w h
         simp only [List.set_cons_zero] at h
         rw [gapL_set d y y2, gapL_down hy] at h
         refine wnil ?_
         refine b_normal ?_
         refine c_then ?_
         refine c_region ?_
         refine wv h (r_move h rfl) rfl ?_
         clear h a w; intro a w h
         refine wv h (r_bin h rfl rfl (B.sub_i64 (by omega) (by omega))) rfl ?_
         clear h a w; intro a w h
         refine wv h (r_assign h rfl) rfl ?_
         clear h a w; intro a w h
         refine wnil ?_
         rw [show (((k + 1 : Nat) : Int) - 1) = (k : Int) by omega] at h
         exact ⟨(k, y), h.keep [0, 3, 4, 6, 10], ⟨by simp only; omega, by simp only; omega⟩, by simp only; omega⟩
        ·
         obtain rfl : j = at_ := by omega
         refine c_exit ?_
         refine e_then ?_
         refine e_then ?_
         refine e_here ?_
         refine c_then ?_
         refine c_region ?_
         refine wv h (r_move h rfl) rfl ?_
         clear h a w; intro a w h
         refine wv h (r_move h rfl) rfl ?_
         clear h a w; intro a w h
         refine wv h (r_move h rfl) rfl ?_
         clear h a w; intro a w h
         refine wv h (r_move h rfl) rfl ?_
         clear h a w; intro a w h
         refine wv h (r_elPv h rfl rfl K.u_S_S_uint8 K.sz_S_uint8 (hv.cons _) i rfl ht1) rfl ?_
         clear h a w; intro a w h
         refine wv h (r_elG h rfl K.u_S_uint8 rfl (hv.cons _) hxc) rfl ?_
         clear h a w; intro a w h
         refine wv h (r_elPv h rfl rfl K.u_S_S_uint8 K.sz_S_uint8 (Views.own 0 rfl) j rfl (by omega)) rfl ?_
         clear h a w; intro a w h
         refine wl rfl (op_storeL (enc := SlV.v) (u := x) slv_one h rfl rfl K.sz_S_uint8 0 rfl (by omega) ?_)
         clear h a w; intro a w h
         simp only [List.set_cons_zero] at h
         rw [gapL_set d x y2] at h
         refine wnil ?_
         refine b_normal ?_
         refine c_then ?_
         refine c_region ?_
         refine wv h (r_move h rfl) rfl ?_
         clear h a w; intro a w h
         refine wv h (r_bin h rfl rfl (B.add_i64 (by omega) (by omega))) rfl ?_
         clear h a w; intro a w h
         refine wv h (r_assign h rfl) rfl ?_
         clear h a w; intro a w h
         refine wnil ?_
         have e : srtx (xs.take (i + 1)) = gapL O j x := hpt j hnk z2
         refine ⟨(i + 1, v49), ?_, ht1, by simp only; omega⟩
         show St 74 s a w _ (OwnL SlV.v v49 (srtx (xs.take (i + 1))) :: F)
         rw [e]
         exact h.keep [0, 3, 4]
   ·
    rw [List.take_of_length_le (by omega)] at h
    refine c_exit ?_
    refine e_then ?_
    refine e_then ?_
    refine e_here ?_
    refine c_then ?_
    refine c_seq (c_region ?_)
    refine wv h (r_move h rfl) rfl ?_
    clear h a w; intro a w h
    refine wv h (r_assign h rfl) rfl ?_
    clear h a w; intro a w h
    refine wnil (c_then ?_)
    refine c_ret ?_
    exact ret1 h rfl rfl ⟨ov, rfl, h.2, trivial⟩
theorem ref_Pack (s w : World) (v : Value) (xs : List SlV) (F : List HItem) (hv : Views F 1 v xs.length (xs.flatMap cellsS)) (hp : ∀ x ∈ xs, ViewsB F x.v x.p ∧ x.p.length ≤ 900) (hl : xs.length ≤ 64) (hs : Sat s w F) :
    Calls P n_ref15_Pack #[v] w (Ret s (fun v' : Value => v') (fun v' => OwnB v' (sealP (headP (bytesI (srtd xs)).length ++ tailP none 0 (bytesI (srtd xs)))) :: F) (fun _ => True)) := by
  refine enter K.fn_ref15_Pack rfl K.nt_ref15_Pack rfl hs ?_
  clear hs w; intro a w h
  refine c_seq (c_region ?_)
  refine wv h (r_assign h rfl) rfl ?_
  clear h a w; intro a w h
  refine wnil (c_then ?_)
  refine c_seq (c_region ?_)
  refine wv h (r_move h rfl) rfl ?_
  clear h a w; intro a w h
  refine wl rfl (op_call h rfl K.go_ref15_Sorted (ref_Sorted s _ v xs _ hv (fun x hx => ⟨(hp x hx).1, by have := (hp x hx).2; omega⟩) (by omega) h.2) rfl ?_)
  clear h a w; intro v9 a w hz9 h
  (simp only [List.set_cons_zero, List.set_cons_succ] at h)
  have hmem : ∀ x ∈ srtx xs, ViewsB F x.v x.p ∧ x.p.length ≤ 900 := fun x hx => hp x (srtx_mem hx)
  have hil := srtx_len xs
  obtain ⟨ps, hps⟩ : ∃ ps, ps = bytesI (srtd xs) := ⟨_, rfl⟩
  have hps2 : ps = (srtx xs).map (·.p) := by rw [hps, srtx_p]
  rw [← hps]
  clear hps
  obtain ⟨its, hits⟩ : ∃ its, its = srtx xs := ⟨_, rfl⟩
  rw [← hits] at h hmem hil hps2
  have hpl : ps.length = its.length := by rw [hps2, List.length_map]
  have hget : ∀ (i : Nat) (x : SlV), its[i]? = some x → ps[i]? = some x.p := fun i x hx => by rw [hps2, List.getElem?_map, hx]; rfl
  have hval : ∀ (i : Nat) (x : SlV), its[i]? = some x → (its.map SlV.v)[i * 1]? = some x.v := fun i x hx => by rw [Nat.mul_one, List.getElem?_map, hx]; rfl
  clear hits hps2
  have hn9 := numN_len9 its.length (by omega)
  refine wv h (r_assign h rfl) rfl ?_
  clear h a w; intro a w h
  refine wnil (c_then ?_)
  refine c_seq (c_region ?_)
  refine wl rfl (op_buildSlice h K.u_S_uint8 K.sz_uint8 K.z_uint8 rfl rfl rfl rfl rfl (by simp [Value.cells, bv, w32, w64, sv]) rfl ?_)
  clear h a w; intro b10 a w h
  refine wl rfl (op_lit h rfl K.u_S_uint8 K.u_uint8 0 rfl rfl ?_)
  clear h a w; intro a w h
  (simp only [List.set_cons_zero, List.set_cons_succ] at h)
  replace h := h.toOwnb [80, 49] (NF.past _) rfl rfl
  refine wv h (r_move h rfl) rfl ?_
  clear h a w; intro a w h
  refine wv h (r_lenV h rfl K.u_S_S_uint8 (by exact Views.own 1 rfl)) rfl ?_
  clear h a w; intro a w h
  refine wl rfl (op_call h rfl K.go_ref01_Num (ref_num s _ its.length _ (by omega) h.2) rfl ?_)
  clear h a w; intro v14 a w hz14 h
  refine wl rfl (op_appendbs h rfl rfl K.u_S_uint8 K.sz_uint8 K.z_uint8 rfl rfl 1 rfl (Src.bytes K.u_S_uint8 (by exact ViewsB.own 0 rfl) h.2) (by (simp only [List.length_cons, List.length_nil]; omega)) rfl ?_)
  clear h a w; intro v15 a w h
  (simp only [List.set_cons_zero, List.set_cons_succ] at h)
  refine wv h (r_assign h rfl) rfl ?_
  clear h a w; intro a w h
  refine wnil (c_then ?_)
  refine c_seq (c_region ?_)
  refine wv h (r_assign h rfl) rfl ?_
  clear h a w; intro a w h
  refine wnil (c_then ?_)
  refine c_seq ?_
  refine c_seq (c_region ?_)
  refine wv h (r_assign h rfl) rfl ?_
  clear h a w; intro a w h
  refine wnil (c_then ?_)
  refine c_block ?_
  replace h := h.mem (fun q => q.tail)
  have hhd : [80, 49] ++ numN its.length = headP ps.length := by rw [hpl]; rfl
  have hhl : (headP ps.length).length ≤ 20 := by rw [headP, hpl, List.length_append]; simp only [List.length_cons, List.length_nil]; omega
  rw [hhd] at h
  refine c_loop (X := Nat × Nat × Value × List UInt8) (fun z => [(3, v9), (4, z.2.2.1), (5, .int .i64 (z.2.1 : Int)), (6, .int .i64 (z.1 : Int))]) (fun z => OwnB z.2.2.1 z.2.2.2 :: OwnL SlV.v v9 its :: F)
    (fun z => z.1 ≤ its.length ∧ z.2.1 ≤ 4 ∧ z.2.2.2.length ≤ 20 + 920 * z.1 ∧ headP ps.length ++ tailP none 0 ps = z.2.2.2 ++ tailP (prevP ps z.1) z.2.1 (ps.drop z.1)) (fun z => its.length - z.1) (0, 0, v15, headP ps.length) (h.keep [3, 4, 5, 6]) ⟨Nat.zero_le _, by simp only; omega, by simp only; omega, rfl⟩ ?_
  clear h a w; intro z a w hz h
  obtain ⟨i, ch, pv, acc⟩ := z
  obtain ⟨z1, z2, z3, z4⟩ := hz
  simp only at z1 z2 z3 z4 h
  as_aux_lemma =>
   refine c_seq ?_
   refine c_seq (c_region ?_)
   refine wv h (r_move h rfl) rfl ?_
   clear h a w; intro a w h
   refine wv h (r_move h rfl) rfl ?_
   clear h a w; intro a w h
   refine wv h (r_lenV h rfl K.u_S_S_uint8 (by exact Views.own 1 rfl)) rfl ?_
   clear h a w; intro a w h
   refine wv h (r_bin h rfl rfl (B.lss_int)) rfl ?_
   clear h a w; intro a w h
   refine wnil (c_then ?_)
   refine c_condP (p := i < its.length) h rfl (by simp) (fun ht1 => ?_) (fun ht1 => ?_)
   ·
    obtain ⟨x, hx⟩ : ∃ x, its[i]? = some x := ⟨_, List.getElem?_eq_getElem ht1⟩
    obtain ⟨hxv, hxl⟩ := hmem x (List.mem_of_getElem? hx)
    have hpi := hget i x hx
    have hxc := hval i x hx
    have dp : ps.drop i = x.p :: ps.drop (i + 1) := by
      obtain ⟨hlt, e⟩ := List.getElem?_eq_some_iff.1 hpi
      rw [List.drop_eq_getElem_cons hlt, e]
    have hpn : prevP ps (i + 1) = some x.p := by rw [prevP, if_neg (by omega), Nat.add_sub_cancel, hpi]
    rw [dp, tailP] at z4
    refine c_skip ?_
    refine c_then ?_
    refine c_seq ?_
    refine c_block ?_
    refine c_meet h (X := Unit) (fun _ => [(3, v9), (4, pv), (5, .int .i64 (ch : Int)), (6, .int .i64 (i : Int))]) (fun _ => OwnB pv acc :: OwnL SlV.v v9 its :: F)
      (fun _ => ¬ ((prevP ps i).isSome = true ∧ ch < 4 ∧ (deltaN ((prevP ps i).getD []) x.p).length < x.p.length)) ?_ ?_
    ·
     refine c_seq (c_region ?_)
     refine wv h (r_move h rfl) rfl ?_
     clear h a w; intro a w h
     refine wv h (r_bin h rfl rfl (B.gtr_int)) rfl ?_
     clear h a w; intro a w h
     refine wv h (r_move h rfl) rfl ?_
     clear h a w; intro a w h
     refine wvG h (by exact .t rfl) (fun hg => by (have hg2 := hg; (simp only [Bool.and_eq_true, Bool.or_eq_true, Bool.not_eq_true', decide_eq_true_eq, decide_eq_false_iff_not] at hg2)); exact r_move h rfl) rfl ?_
     clear h a w; intro a w h
     refine wvG h (by exact .t rfl) (fun hg => by (simp only [↓gval_on hg, ↓gval_and hg] at h); (have hg2 := hg; (simp only [Bool.and_eq_true, Bool.or_eq_true, Bool.not_eq_true', decide_eq_true_eq, decide_eq_false_iff_not] at hg2)); exact r_bin h rfl rfl (B.lss_int)) rfl ?_
     clear h a w; intro a w h
     refine wv h (r_pickA h rfl rfl rfl) rfl ?_
     clear h a w; intro a w h
     refine wnil (c_then ?_)
     refine c_condP (p := 0 < i ∧ ch < 4) h rfl (by simp only [Bool.and_eq_true, decide_eq_true_eq]; omega) (fun ht2 => ?_) (fun ht2 => ?_)
     ·
      obtain ⟨x0, hx0⟩ : ∃ x, its[i - 1]? = some x := ⟨_, List.getElem?_eq_getElem (by omega)⟩
      obtain ⟨hyv, hyl⟩ := hmem x0 (List.mem_of_getElem? hx0)
      have hpp : prevP ps i = some x0.p := by rw [prevP, if_neg (by omega), hget _ _ hx0]
      rw [hpp] at z4 ⊢
      have hyc := hval _ _ hx0
      simp only [Option.isSome_some, Option.getD_some, true_and] at z4
      as_aux_lemma =>
       refine c_seq (c_drawn 11 K.mixed rfl h ?_)
       clear h a w; intro a w h
       have hD : Paid s w [] := Paid.nil
       refine d_take0 (listed' := #[true, false, false, false, false, false, false, false, false, false, false]) h hD 0 (by as_aux_lemma => kernel_rfl) rfl (by as_aux_lemma => kernel_rfl) (by as_aux_lemma => kernel_rfl) (by as_aux_lemma => kernel_rfl) (fun _ _ _ _ hh => hh) (fun w h => by exact r_move h rfl) rfl ?_
       clear hD h a w; intro a w h hD
       refine d_take0 (listed' := #[true, true, false, false, false, false, false, false, false, false, false]) h hD 1 (by as_aux_lemma => kernel_rfl) rfl (by as_aux_lemma => kernel_rfl) (by as_aux_lemma => kernel_rfl) (by as_aux_lemma => kernel_rfl) (fun _ _ _ _ hh => hh) (fun w h => by exact r_move h rfl) rfl ?_
       clear hD h a w; intro a w h hD
       refine d_take0 (listed' := #[true, true, true, false, false, false, false, false, false, false, false]) h hD 2 (by as_aux_lemma => kernel_rfl) rfl (by as_aux_lemma => kernel_rfl) (by as_aux_lemma => kernel_rfl) (by as_aux_lemma => kernel_rfl) (fun _ _ _ _ hh => hh) (fun w h => by exact r_bin h rfl rfl (B.sub_i64 (by omega) (by omega))) rfl ?_
       clear hD h a w; intro a w h hD
       refine d_take (listed' := #[true, true, true, true, false, false, false, false, false, false, false]) h hD 3 _ (by as_aux_lemma => kernel_rfl) rfl (by as_aux_lemma => kernel_rfl) (by as_aux_lemma => kernel_rfl) (by as_aux_lemma => kernel_rfl) (fun _ _ _ _ hh => hh) h.2 (fun w hw => by exact r_elPv /- Views -/ ⟨h.1, hw⟩ rfl rfl K.u_S_S_uint8 K.sz_S_uint8 (Views.own 1 rfl) (i - 1) (by omega) (by omega)) rfl ?_
       clear hD h a w; intro a w h hD
       refine d_take (listed' := #[true, true, true, true, true, false, false, false, false, false, false]) h hD 4 _ (by as_aux_lemma => kernel_rfl) rfl (by as_aux_lemma => kernel_rfl) (by as_aux_lemma => kernel_rfl) (by as_aux_lemma => kernel_rfl) (fun _ _ _ _ hh => hh) h.2 (fun w hw => by exact r_elG /- Views -/ ⟨h.1, hw⟩ rfl K.u_S_uint8 rfl (Views.own 1 rfl) hyc) rfl ?_
       clear hD h a w; intro a w h hD
       refine d_take0 (listed' := #[true, true, true, true, true, true, false, false, false, false, false]) h hD 5 (by as_aux_lemma => kernel_rfl) rfl (by as_aux_lemma => kernel_rfl) (by as_aux_lemma => kernel_rfl) (by as_aux_lemma => kernel_rfl) (fun _ _ _ _ hh => hh) (fun w h => by exact r_move h rfl) rfl ?_
       clear hD h a w; intro a w h hD
       refine d_take0 (listed' := #[true, true, true, true, true, true, true, false, false, false, false]) h hD 6 (by as_aux_lemma => kernel_rfl) rfl (by as_aux_lemma => kernel_rfl) (by as_aux_lemma => kernel_rfl) (by as_aux_lemma => kernel_rfl) (fun _ _ _ _ hh => hh) (fun w h => by exact r_move h rfl) rfl ?_
       clear hD h a w; intro a w h hD
       refine d_take (listed' := #[true, true, true, true, true, true, true, true, false, false, false]) h hD 7 _ (by as_aux_lemma => kernel_rfl) rfl (by as_aux_lemma => kernel_rfl) (by as_aux_lemma => kernel_rfl) (by as_aux_lemma => kernel_rfl) (fun _ _ _ _ hh => hh) h.2 (fun w hw => by exact r_elPv /- Views -/ ⟨h.1, hw⟩ rfl rfl K.u_S_S_uint8 K.sz_S_uint8 (Views.own 1 rfl) i rfl ht1) rfl ?_
       clear hD h a w; intro a w h hD
       refine d_take (listed' := #[true, true, true, true, true, true, true, true, true, false, false]) h hD 8 _ (by as_aux_lemma => kernel_rfl) rfl (by as_aux_lemma => kernel_rfl) (by as_aux_lemma => kernel_rfl) (by as_aux_lemma => kernel_rfl) (fun _ _ _ _ hh => hh) h.2 (fun w hw => by exact r_elG /- Views -/ ⟨h.1, hw⟩ rfl K.u_S_uint8 rfl (Views.own 1 rfl) hxc) rfl ?_
       clear hD h a w; intro a w h hD
       refine d_only (listed' := #[true, true, true, true, true, true, true, true, true, true, false]) 9 [false, true, false, true] (by as_aux_lemma => kernel_rfl) rfl rfl (by as_aux_lemma => kernel_rfl) (by as_aux_lemma => kernel_rfl) ?_
       refine op_call h rfl K.go_ref15_Delta (ref_Delta s _ x0.v x.v x0.p x.p _ ((hyv.cons _).cons _) ((hxv.cons _).cons _) (by omega) (by omega) h.2) rfl ?_
       clear hD h a w; intro v37 a w hz37 h
       obtain ⟨d, hd⟩ : ∃ d, d = deltaN x0.p x.p := ⟨_, rfl⟩
       rw [← hd] at h z4
       refine d_pay (Paid.cons (by exact h.2.drop 1) (Paid.cons (by exact h.2.drop 1) (Paid.nil))) (fun hD => ?_)
       refine d_take0 (listed' := #[true, true, true, true, true, true, true, true, true, true, true]) h hD 10 (by as_aux_lemma => kernel_rfl) rfl (by as_aux_lemma => kernel_rfl) (by as_aux_lemma => kernel_rfl) (by as_aux_lemma => kernel_rfl) (fun _ _ _ _ hh => hh) (fun w h => by exact r_assign h rfl) rfl ?_
       clear hD h a w; intro a w h hD
       refine d_done (by kernel_rfl) ?_
       clear hD
       refine c_then ?_
       refine c_seq (c_region ?_)
       refine wv h (r_move h rfl) rfl ?_
       clear h a w; intro a w h
       refine wv h (r_lenB h rfl K.u_S_uint8 (by exact ViewsB.own 0 rfl)) rfl ?_
       clear h a w; intro a w h
       refine wv h (r_move h rfl) rfl ?_
       clear h a w; intro a w h
       refine wv h (r_move h rfl) rfl ?_
       clear h a w; intro a w h
       refine wv h (r_elPv h rfl rfl K.u_S_S_uint8 K.sz_S_uint8 (Views.own 2 rfl) i rfl ht1) rfl ?_
       clear h a w; intro a w h
       refine wv h (r_elG h rfl K.u_S_uint8 rfl (Views.own 2 rfl) hxc) rfl ?_
       clear h a w; intro a w h
       refine wv h (r_lenB h rfl K.u_S_uint8 (((hxv.cons _).cons _).cons _)) rfl ?_
       clear h a w; intro a w h
       refine wv h (r_bin h rfl rfl (B.lss_int)) rfl ?_
       clear h a w; intro a w h
       refine wnil (c_then ?_)
       refine c_condP (p := d.length < x.p.length) h rfl (by simp) (fun ht3 => ?_) (fun ht3 => ?_)
       ·
        have hn1 := numN_len9 (2 * d.length + 1) (by omega)
        rw [if_pos ⟨ht2.2, ht3⟩] at z4
        as_aux_lemma =>
         refine c_seq (c_region ?_)
         refine wv h (r_move h rfl) rfl ?_
         clear h a w; intro a w h
         refine wv h (r_move h rfl) rfl ?_
         clear h a w; intro a w h
         refine wv h (r_lenB h rfl K.u_S_uint8 (by exact ViewsB.own 0 rfl)) rfl ?_
         clear h a w; intro a w h
         refine wv h (r_bin h rfl rfl (B.mul_i64 (by omega) (by omega))) rfl ?_
         clear h a w; intro a w h
         refine wv h (r_bin h rfl rfl (B.add_i64 (by omega) (by omega))) rfl ?_
         clear h a w; intro a w h
         rw [show (2 * (d.length : Int) + 1) = ((2 * d.length + 1 : Nat) : Int) by omega] at h
         refine wl rfl (op_call h rfl K.go_ref01_Num (ref_num s _ (2 * d.length + 1) _ (by omega) h.2) rfl ?_)
         clear h a w; intro v51 a w hz51 h
         refine wl rfl (op_appendbs h rfl rfl K.u_S_uint8 K.sz_uint8 K.z_uint8 rfl rfl 2 rfl (Src.bytes K.u_S_uint8 (by exact ViewsB.own 0 rfl) h.2) (by omega) rfl ?_)
         clear h a w; intro v52 a w h
         (simp only [List.set_cons_zero, List.set_cons_succ] at h)
         refine wv h (r_move h rfl) rfl ?_
         clear h a w; intro a w h
         refine wl rfl (op_appendbs h rfl rfl K.u_S_uint8 K.sz_uint8 K.z_uint8 rfl rfl 2 rfl (Src.bytes K.u_S_uint8 (by exact ViewsB.own 1 rfl) h.2) (by (simp; omega)) rfl ?_)
         clear h a w; intro v54 a w h
         (simp only [List.set_cons_zero, List.set_cons_succ] at h)
         refine wv h (r_assign h rfl) rfl ?_
         clear h a w; intro a w h
         refine wnil (c_then ?_)
         refine c_seq (c_region ?_)
         refine wv h (r_move h rfl) rfl ?_
         clear h a w; intro a w h
         refine wv h (r_bin h rfl rfl (B.add_i64 (by omega) (by omega))) rfl ?_
         clear h a w; intro a w h
         refine wv h (r_assign h rfl) rfl ?_
         clear h a w; intro a w h
         refine wnil (c_then ?_)
         refine c_exit ?_
         refine e_then ?_
         refine e_here ?_
         refine c_then ?_
         refine c_region ?_
         refine wv h (r_move h rfl) rfl ?_
         clear h a w; intro a w h
         refine wv h (r_bin h rfl rfl (B.add_i64 (by omega) (by omega))) rfl ?_
         clear h a w; intro a w h
         refine wv h (r_assign h rfl) rfl ?_
         clear h a w; intro a w h
         refine wnil ?_
         replace h := h.mem (fun q => q.tail.tail)
         exact ⟨(i + 1, ch + 1, v54, acc ++ numN (2 * d.length + 1) ++ d), h.keep [3, 4, 5, 6], ⟨ht1, by simp only; omega, by simp only [List.length_append]; omega, by rw [z4, hpn]; simp⟩, by simp only; omega⟩
       ·
        refine c_skip ?_
        exact ⟨(), (h.keep [3, 4, 5, 6]).drop 1, fun q => ht3 (by simpa [← hd] using q.2.2)⟩
     ·
      refine c_skip ?_
      exact ⟨(), h.keep [3, 4, 5, 6], fun q => ht2 ⟨by
        rcases Nat.eq_zero_or_pos i with e | e
        · rw [e] at q; simp [prevP] at q
        · exact e, q.2.1⟩⟩
    ·
     clear h a w; intro z a w hz h
     rw [if_neg hz] at z4
     have hn2 := numN_len9 (2 * x.p.length) (by omega)
     refine c_seq (c_drawn 15 K.mixed rfl h ?_)
     clear h a w; intro a w h
     have hD : Paid s w [] := Paid.nil
     refine d_take0 (listed' := #[true, false, false, false, false, false, false, false, false, false, false, false, false, false, false]) h hD 0 (by as_aux_lemma => kernel_rfl) rfl (by as_aux_lemma => kernel_rfl) (by as_aux_lemma => kernel_rfl) (by as_aux_lemma => kernel_rfl) (fun _ _ _ _ hh => hh) (fun w h => by exact r_move h rfl) rfl ?_
     clear hD h a w; intro a w h hD
     refine d_take0 (listed' := #[true, true, false, false, false, false, false, false, false, false, false, false, false, false, false]) h hD 1 (by as_aux_lemma => kernel_rfl) rfl (by as_aux_lemma => kernel_rfl) (by as_aux_lemma => kernel_rfl) (by as_aux_lemma => kernel_rfl) (fun _ _ _ _ hh => hh) (fun w h => by exact r_move h rfl) rfl ?_
     clear hD h a w; intro a w h hD
     refine d_take0 (listed' := #[true, true, true, false, false, false, false, false, false, false, false, false, false, false, false]) h hD 2 (by as_aux_lemma => kernel_rfl) rfl (by as_aux_lemma => kernel_rfl) (by as_aux_lemma => kernel_rfl) (by as_aux_lemma => kernel_rfl) (fun _ _ _ _ hh => hh) (fun w h => by exact r_move h rfl) rfl ?_
     clear hD h a w; intro a w h hD
     refine d_take (listed' := #[true, true, true, true, false, false, false, false, false, false, false, false, false, false, false]) h hD 3 ((OwnL SlV.v v9 its :: F)) (by as_aux_lemma => kernel_rfl) rfl (by as_aux_lemma => kernel_rfl) (by as_aux_lemma => kernel_rfl) (by as_aux_lemma => kernel_rfl) (fun _ _ _ _ hh => hh) (by exact h.2.drop 1) (fun w hw => by exact r_elPv /- Views -/ ⟨h.1, hw⟩ rfl rfl K.u_S_S_uint8 K.sz_S_uint8 (Views.own 0 rfl) i rfl ht1) rfl ?_
     clear hD h a w; intro a w h hD
     refine d_take (listed' := #[true, true, true, true, true, false, false, false, false, false, false, false, false, false, false]) h hD 4 ((OwnL SlV.v v9 its :: F)) (by as_aux_lemma => kernel_rfl) rfl (by as_aux_lemma => kernel_rfl) (by as_aux_lemma => kernel_rfl) (by as_aux_lemma => kernel_rfl) (fun _ _ _ _ hh => hh) (by exact h.2.drop 1) (fun w hw => by exact r_elG /- Views -/ ⟨h.1, hw⟩ rfl K.u_S_uint8 rfl (Views.own 0 rfl) hxc) rfl ?_
     clear hD h a w; intro a w h hD
     refine d_take (listed' := #[true, true, true, true, true, true, false, false, false, false, false, false, false, false, false]) h hD 5 (F) (by as_aux_lemma => kernel_rfl) rfl (by as_aux_lemma => kernel_rfl) (by as_aux_lemma => kernel_rfl) (by as_aux_lemma => kernel_rfl) (fun _ _ _ _ hh => hh) (by exact h.2.drop 2) (fun w hw => by exact r_lenB /- Views -/ ⟨h.1, hw⟩ rfl K.u_S_uint8 hxv) rfl ?_
     clear hD h a w; intro a w h hD
     refine d_take0 (listed' := #[true, true, true, true, true, true, true, false, false, false, false, false, false, false, false]) h hD 6 (by as_aux_lemma => kernel_rfl) rfl (by as_aux_lemma => kernel_rfl) (by as_aux_lemma => kernel_rfl) (by as_aux_lemma => kernel_rfl) (fun _ _ _ _ hh => hh) (fun w h => by exact r_bin h rfl rfl (B.mul_i64 (by omega) (by omega))) rfl ?_
     clear hD h a w; intro a w h hD
     rw [show (2 * (x.p.length : Int)) = ((2 * x.p.length : Nat) : Int) by omega] at h
     refine d_take0 (listed' := #[true, true, true, true, true, true, true, false, false, true, false, false, false, false, false]) h hD 9 (by as_aux_lemma => kernel_rfl) rfl (by as_aux_lemma => kernel_rfl) (by as_aux_lemma => kernel_rfl) (by as_aux_lemma => kernel_rfl) (fun _ _ _ _ hh => hh) (fun w h => by exact r_move h rfl) rfl ?_
     clear hD h a w; intro a w h hD
     refine d_take0 (listed' := #[true, true, true, true, true, true, true, false, false, true, true, false, false, false, false]) h hD 10 (by as_aux_lemma => kernel_rfl) rfl (by as_aux_lemma => kernel_rfl) (by as_aux_lemma => kernel_rfl) (by as_aux_lemma => kernel_rfl) (fun _ _ _ _ hh => hh) (fun w h => by exact r_move h rfl) rfl ?_
     clear hD h a w; intro a w h hD
     refine d_take (listed' := #[true, true, true, true, true, true, true, false, false, true, true, true, false, false, false]) h hD 11 ((OwnL SlV.v v9 its :: F)) (by as_aux_lemma => kernel_rfl) rfl (by as_aux_lemma => kernel_rfl) (by as_aux_lemma => kernel_rfl) (by as_aux_lemma => kernel_rfl) (fun _ _ _ _ hh => hh) (by exact h.2.drop 1) (fun w hw => by exact r_elPv /- Views -/ ⟨h.1, hw⟩ rfl rfl K.u_S_S_uint8 K.sz_S_uint8 (Views.own 0 rfl) i rfl ht1) rfl ?_
     clear hD h a w; intro a w h hD
     refine d_take (listed' := #[true, true, true, true, true, true, true, false, false, true, true, true, true, false, false]) h hD 12 ((OwnL SlV.v v9 its :: F)) (by as_aux_lemma => kernel_rfl) rfl (by as_aux_lemma => kernel_rfl) (by as_aux_lemma => kernel_rfl) (by as_aux_lemma => kernel_rfl) (fun _ _ _ _ hh => hh) (by exact h.2.drop 1) (fun w hw => by exact r_elG /- Views -/ ⟨h.1, hw⟩ rfl K.u_S_uint8 rfl (Views.own 0 rfl) hxc) rfl ?_
     clear hD h a w; intro a w h hD
     refine d_only (listed' := #[true, true, true, true, true, true, true, true, false, true, true, true, true, false, false]) 7 [true, true, true, true, true] (by as_aux_lemma => kernel_rfl) rfl rfl (by as_aux_lemma => kernel_rfl) (by as_aux_lemma => kernel_rfl) ?_
     refine op_call h rfl K.go_ref01_Num (ref_num s _ (2 * x.p.length) _ (by omega) h.2) rfl ?_
     clear hD h a w; intro v64 a w hz64 h
     refine d_pay (Paid.cons (by exact h.2.drop 2) (Paid.cons (by exact h.2.drop 2) (Paid.cons (by exact h.2.drop 3) (Paid.cons (by exact h.2.drop 2) (Paid.cons (by exact h.2.drop 2) (Paid.nil)))))) (fun hD => ?_)
     refine d_only (listed' := #[true, true, true, true, true, true, true, true, true, true, true, true, true, false, false]) 8 [true, true, true, true, true] (by as_aux_lemma => kernel_rfl) rfl rfl (by as_aux_lemma => kernel_rfl) (by as_aux_lemma => kernel_rfl) ?_
     refine op_appendbs h rfl rfl K.u_S_uint8 K.sz_uint8 K.z_uint8 rfl rfl 1 rfl (Src.bytes K.u_S_uint8 (by exact ViewsB.own 0 rfl) h.2) (by omega) rfl ?_
     clear hD h a w; intro v65 a w h
     (simp only [List.set_cons_zero, List.set_cons_succ] at h)
     refine d_pay (Paid.cons (by exact h.2.drop 2) (Paid.cons (by exact h.2.drop 2) (Paid.cons (by exact h.2.drop 3) (Paid.cons (by exact h.2.drop 2) (Paid.cons (by exact h.2.drop 2) (Paid.nil)))))) (fun hD => ?_)
     refine d_only (listed' := #[true, true, true, true, true, true, true, true, true, true, true, true, true, true, false]) 13 [false, true, true, true, true] (by as_aux_lemma => kernel_rfl) rfl rfl (by as_aux_lemma => kernel_rfl) (by as_aux_lemma => kernel_rfl) ?_
     refine op_appendbs h rfl rfl K.u_S_uint8 K.sz_uint8 K.z_uint8 rfl rfl 1 rfl (Src.bytes K.u_S_uint8 (by exact ViewsB.of_drop 3 (by assumption)) h.2) (by (simp; omega)) rfl ?_
     clear hD h a w; intro v70 a w h
     (simp only [List.set_cons_zero, List.set_cons_succ] at h)
     refine d_pay (Paid.cons (by exact h.2.drop 2) (Paid.cons (by exact h.2.drop 3) (Paid.cons (by exact h.2.drop 2) (Paid.cons (by exact h.2.drop 2) (Paid.nil))))) (fun hD => ?_)
     refine d_take0 (listed' := #[true, true, true, true, true, true, true, true, true, true, true, true, true, true, true]) h hD 14 (by as_aux_lemma => kernel_rfl) rfl (by as_aux_lemma => kernel_rfl) (by as_aux_lemma => kernel_rfl) (by as_aux_lemma => kernel_rfl) (fun _ _ _ _ hh => hh) (fun w h => by exact r_assign h rfl) rfl ?_
     clear hD h a w; intro a w h hD
     refine d_done (by kernel_rfl) ?_
     clear hD
     refine c_then ?_
     refine c_region ?_
     refine wv h (r_assign h rfl) rfl ?_
     clear h a w; intro a w h
     refine wnil ?_
     refine b_normal ?_
     refine c_then ?_
     refine c_region ?_
     refine wv h (r_move h rfl) rfl ?_
     clear h a w; intro a w h
     refine wv h (r_bin h rfl rfl (B.add_i64 (by omega) (by omega))) rfl ?_
     clear h a w; intro a w h
     refine wv h (r_assign h rfl) rfl ?_
     clear h a w; intro a w h
     refine wnil ?_
     replace h := h.mem (fun q => q.tail)
     exact ⟨(i + 1, 0, v70, acc ++ numN (2 * x.p.length) ++ x.p), h.keep [3, 4, 5, 6], ⟨ht1, by simp only; omega, by simp only [List.length_append]; omega, by rw [z4, hpn]; simp⟩, by simp only; omega⟩
   ·
    rw [List.drop_eq_nil_of_le (by omega), tailP, List.append_nil] at z4
    have hf4 : (fourN (crcN acc)).length = 4 := rfl
    refine c_exit ?_
    refine e_then ?_
    refine e_then ?_
    refine e_here ?_
    refine c_then ?_
    refine c_seq (c_region ?_)
    refine wv h (r_move h rfl) rfl ?_
    clear h a w; intro a w h
    refine wv h (r_move h rfl) rfl ?_
    clear h a w; intro a w h
    refine wl rfl (op_call h rfl K.go_ref01_Sum (ref_sum s _ pv acc _ (by omega) (Views.own 0 rfl) h.2) rfl ?_)
    clear h a w; intro z73 a w hz73 h
    refine wl rfl (op_call h rfl K.go_ref01_Four (ref_four s _ (crcN acc) _ h.2) rfl ?_)
    clear h a w; intro v74 a w hz74 h
    refine wl rfl (op_appendbs h rfl rfl K.u_S_uint8 K.sz_uint8 K.z_uint8 rfl rfl 1 rfl (Src.bytes K.u_S_uint8 (by exact ViewsB.own 0 rfl) h.2) (by omega) rfl ?_)
    clear h a w; intro v75 a w h
    (simp only [List.set_cons_zero, List.set_cons_succ] at h)
    refine wv h (r_assign h rfl) rfl ?_
    clear h a w; intro a w h
    refine wnil (c_then ?_)
    refine c_ret ?_
    exact ret1 h rfl rfl ⟨v75, rfl, by rw [z4]; exact ((h.2.tail.front 1 rfl).tail), trivial⟩
end Go.Proofs.K

/- The laws of layer 16, walked: PackObjects. -/
namespace Go.Sl
theorem tailP_len : ∀ (l : List (List UInt8)) (prev : Option (List UInt8)) (ch : Nat), (∀ p ∈ l, p.length ≤ 900) → (tailP prev ch l).length ≤ 920 * l.length
  | [], _, _, _ => by simp [tailP]
  | p :: l, prev, ch, h => by
    have hp := h p (by simp)
    have ih := fun prev ch => tailP_len l prev ch (fun q hq => h q (by simp [hq]))
    rw [tailP]
    split
    · rename_i hc
      have := ih (some p) (ch + 1)
      have := numN_len9 (2 * (deltaN (prev.getD []) p).length + 1) (by omega)
      simp only [List.length_append, List.length_cons]; omega
    · have := ih (some p) 0
      have := numN_len9 (2 * p.length) (by omega)
      simp only [List.length_append, List.length_cons]; omega
/-- a pack's bytes -/
def packP (xs : List SlV) : List UInt8 := headP (bytesI (srtd xs)).length ++ tailP none 0 (bytesI (srtd xs))
theorem bytesI_ok {xs : List SlV} (h : ∀ x ∈ xs, OkP x.p) : ∀ p ∈ bytesI (srtd xs), OkP p := fun p hp => by
  obtain ⟨i, hi, rfl⟩ := List.mem_map.1 hp
  exact h _ (srtd_mem hi).1
theorem bytesI_len (xs : List SlV) : (bytesI (srtd xs)).length ≤ xs.length := by unfold bytesI; rw [List.length_map]; exact srtd_len xs
theorem encP_pack {xs : List SlV} (h : ∀ x ∈ xs, OkP x.p) (hl : xs.length ≤ 64) : encP (bytesI (srtd xs)) = some (sealP (packP xs)) :=
  encP_tail (bytesI_ok h) (by have := bytesI_len xs; omega)
theorem packP_len {xs : List SlV} (h : ∀ x ∈ xs, OkP x.p) (hl : xs.length ≤ 64) : (packP xs).length ≤ 20 + 920 * xs.length ∧ 3 ≤ (packP xs).length := by
  have h1 := bytesI_len xs
  have h2 := tailP_len (bytesI (srtd xs)) none 0 (fun p hp => (bytesI_ok h p hp).2)
  have h3 := numN_len9 (bytesI (srtd xs)).length (by omega)
  have h4 := numN_len_pos (bytesI (srtd xs)).length
  unfold packP headP
  simp only [List.length_append, List.length_cons, List.length_nil]; omega
end Go.Sl
namespace Go.Proofs.K
open Go.Sl
attribute [local irreducible] Go.Sl.Own Go.Sl.Blk Go.Sl.Sep Go.Sl.Ex Go.Sl.Fact
theorem law16_PackObjects (s w : World) (v0 : Value) (xs : List SlV) (near : UInt8) (F : List HItem) (hT : HasParts F) (hF : HasFirst F) (hC : HasLines F) (hv : Views F 1 v0 xs.length (xs.flatMap cellsS)) (hp : ∀ x ∈ xs, ViewsB F x.v x.p) (hs : Sat s w F) :
    Calls P n_law16_PackObjects #[v0, bv near] w (Ret s (fun _ : Unit => .bool true) (fun _ => F) (fun _ => True)) := by
  refine enter K.fn_law16_PackObjects rfl K.nt_law16_PackObjects rfl hs ?_
  clear hs w; intro a w h
  refine c_seq (c_region ?_)
  refine wv h (r_assign h rfl) rfl ?_
  clear h a w; intro a w h
  refine wnil (c_then ?_)
  refine c_seq ?_
  refine c_seq (c_region ?_)
  refine wl rfl (op_call h rfl K.go_law16_awake (law16_awake s _ _ hT hF hC h.2) rfl ?_)
  clear h a w; intro z14 a w hz14 h
  (simp only [List.set_cons_zero, List.set_cons_succ] at h)
  refine wv h (r_not h rfl) rfl ?_
  clear h a w; intro a w h
  refine wv h (r_move h rfl) rfl ?_
  clear h a w; intro a w h
  refine wvG h (by exact .f rfl) (fun hg => by (have hg2 := hg; (simp only [Bool.and_eq_true, Bool.or_eq_true, Bool.not_eq_true', decide_eq_true_eq, decide_eq_false_iff_not] at hg2)); exact r_move h rfl) rfl ?_
  clear h a w; intro a w h
  refine wvG h (by exact .f rfl) (fun hg => by (simp only [↓gval_on hg, ↓gval_and hg] at h); (have hg2 := hg; (simp only [Bool.and_eq_true, Bool.or_eq_true, Bool.not_eq_true', decide_eq_true_eq, decide_eq_false_iff_not] at hg2)); exact r_lenV h rfl K.u_S_S_uint8 (by assumption)) rfl ?_
  clear h a w; intro a w h
  refine wvG h (by exact .f rfl) (fun hg => by (simp only [↓gval_on hg, ↓gval_and hg] at h); (have hg2 := hg; (simp only [Bool.and_eq_true, Bool.or_eq_true, Bool.not_eq_true', decide_eq_true_eq, decide_eq_false_iff_not] at hg2)); exact r_bin h rfl rfl (B.gtr_int)) rfl ?_
  clear h a w; intro a w h
  refine wv h (r_pickO h rfl rfl rfl) rfl ?_
  clear h a w; intro a w h
  refine wnil (c_then ?_)
  refine c_condP (p := 10 < xs.length) h rfl (by simp; omega) (fun ht1 => ?_) (fun ht1 => ?_)
  ·
   as_aux_lemma =>
    refine c_seq (c_region ?_)
    refine wl rfl (op_call h rfl K.go_law16_awake (law16_awake s _ _ hT hF hC h.2) rfl ?_)
    clear h a w; intro z21 a w hz21 h
    refine wv h (r_assign h rfl) rfl ?_
    clear h a w; intro a w h
    refine wnil (c_then ?_)
    refine c_ret ?_
    exact ret1 h rfl rfl ⟨(), rfl, h.2, trivial⟩
  ·
   refine c_skip ?_
   refine c_then ?_
   refine c_seq (c_region ?_)
   refine wv h (r_assign h rfl) rfl ?_
   clear h a w; intro a w h
   refine wnil (c_then ?_)
   refine c_seq ?_
   refine c_seq (c_region ?_)
   refine wv h (r_assign h rfl) rfl ?_
   clear h a w; intro a w h
   refine wnil (c_then ?_)
   refine c_block ?_
   replace h : St _ _ _ _ _ (OwnM 1 cellsS (.slice none 0 0) [] :: BytI [] :: F) := St.addNilM (size := 1) (cells := cellsS) ⟨h.1, satBytNil h.2⟩
   refine c_loop (X := Nat × Value × List SlV) (fun z => [(0, v0), (1, bv near), (5, z.2.1), (6, .int .i64 (z.1 : Int))]) (fun z => OwnM 1 cellsS z.2.1 z.2.2 :: BytI z.2.2 :: F)
     (fun z => z.1 ≤ xs.length ∧ z.2.2.length = z.1 ∧ (∀ y ∈ z.2.2, 0 < y.p.length ∧ y.p.length ≤ 120) ∧ ∀ x, 0 < z.1 → xs[0]? = some x → x.p.length ≤ 60) (fun z => xs.length - z.1) (0, .slice none 0 0, []) (h.keep [0, 1, 5, 6]) ⟨Nat.zero_le _, rfl, fun y hy => absurd hy (by simp), fun x hx => absurd hx (by simp)⟩ ?_
   clear h a w; intro z a w hz h
   obtain ⟨i, v5, ys⟩ := z
   obtain ⟨z1, z2, z3, z4⟩ := hz
   simp only at z1 z2 z3 z4 h
   as_aux_lemma =>
    refine c_seq ?_
    refine c_seq (c_region ?_)
    refine wv h (r_move h rfl) rfl ?_
    clear h a w; intro a w h
    refine wv h (r_move h rfl) rfl ?_
    clear h a w; intro a w h
    refine wv h (r_lenV h rfl K.u_S_S_uint8 (by exact Views.of_drop 2 (by assumption))) rfl ?_
    clear h a w; intro a w h
    refine wv h (r_bin h rfl rfl (B.lss_int)) rfl ?_
    clear h a w; intro a w h
    refine wnil (c_then ?_)
    refine c_condP (p := i < xs.length) h rfl (by simp) (fun ht2 => ?_) (fun ht2 => ?_)
    ·
     obtain ⟨x, hx⟩ : ∃ x, xs[i]? = some x := ⟨_, List.getElem?_eq_getElem ht2⟩
     obtain ⟨x0, hx0⟩ : ∃ x, xs[0]? = some x := ⟨_, List.getElem?_eq_getElem (by omega)⟩
     have hxv := hp x (List.mem_of_getElem? hx)
     have hyv := hp x0 (List.mem_of_getElem? hx0)
     have hxc : (xs.flatMap cellsS)[i * 1]? = some x.v := by rw [flatS, Nat.mul_one, List.getElem?_map, hx]; rfl
     have hyc : (xs.flatMap cellsS)[0 * 1]? = some x0.v := by rw [flatS, Nat.mul_one, List.getElem?_map, hx0]; rfl
     refine c_skip ?_
     refine c_then ?_
     refine c_seq ?_
     refine c_block ?_
     refine c_seq ?_
     refine c_seq (c_region ?_)
     refine wv h (r_move h rfl) rfl ?_
     clear h a w; intro a w h
     refine wv h (r_move h rfl) rfl ?_
     clear h a w; intro a w h
     refine wv h (r_elPv h rfl rfl K.u_S_S_uint8 K.sz_S_uint8 ((hv.cons _).cons _) i rfl ht2) rfl ?_
     clear h a w; intro a w h
     refine wv h (r_elG h rfl K.u_S_uint8 rfl ((hv.cons _).cons _) hxc) rfl ?_
     clear h a w; intro a w h
     refine wv h (r_lenB h rfl K.u_S_uint8 (by exact ViewsB.of_drop 2 (by assumption))) rfl ?_
     clear h a w; intro a w h
     refine wv h (r_bin h rfl rfl (B.gtr_int)) rfl ?_
     clear h a w; intro a w h
     refine wnil (c_then ?_)
     refine c_condP (p := 60 < x.p.length) h rfl (by simp; omega) (fun ht3 => ?_) (fun ht3 => ?_)
     ·
      as_aux_lemma =>
       refine c_seq (c_region ?_)
       refine wv h (r_assign h rfl) rfl ?_
       clear h a w; intro a w h
       refine wnil (c_then ?_)
       refine c_ret ?_
       exact ret1 h rfl rfl ⟨(), rfl, h.2.tail.tail, trivial⟩
     ·
      refine c_skip ?_
      refine c_then ?_
      refine c_seq (c_region ?_)
      refine wv h (r_move h rfl) rfl ?_
      clear h a w; intro a w h
      refine wv h (r_move h rfl) rfl ?_
      clear h a w; intro a w h
      refine wv h (r_elPv h rfl rfl K.u_S_S_uint8 K.sz_S_uint8 ((hv.cons _).cons _) i rfl ht2) rfl ?_
      clear h a w; intro a w h
      refine wv h (r_elG h rfl K.u_S_uint8 rfl ((hv.cons _).cons _) hxc) rfl ?_
      clear h a w; intro a w h
      refine wl rfl (op_appendnbs h rfl rfl K.u_S_uint8 K.sz_uint8 K.z_uint8 rfl rfl (Src.bytes K.u_S_uint8 (by exact ViewsB.of_drop 2 (by assumption)) h.2) (by omega) rfl ?_)
      clear h a w; intro v38 a w h
      refine wv h (r_assign h rfl) rfl ?_
      clear h a w; intro a w h
      refine wnil (c_then ?_)
      refine c_meet h (X := Value × List UInt8) (fun z => [(0, v0), (1, bv near), (5, v5), (6, .int .i64 (i : Int)), (7, z.1)]) (fun z => OwnB z.1 z.2 :: OwnM 1 cellsS v5 ys :: BytI ys :: F) (fun z => z.2.length ≤ 120) ?_ ?_
      ·
       refine c_seq (c_region ?_)
       refine wv h (r_move h rfl) rfl ?_
       clear h a w; intro a w h
       refine wv h (r_bin h rfl rfl (B.rem_u8 (y := 2) (by decide))) rfl ?_
       clear h a w; intro a w h
       refine wv h (r_bin h rfl rfl (B.eql_u8 (y := 1))) rfl ?_
       clear h a w; intro a w h
       refine wv h (r_move h rfl) rfl ?_
       clear h a w; intro a w h
       refine wvG h (by exact .t rfl) (fun hg => by (have hg2 := hg; (simp only [Bool.and_eq_true, Bool.or_eq_true, Bool.not_eq_true', decide_eq_true_eq, decide_eq_false_iff_not] at hg2)); exact r_move h rfl) rfl ?_
       clear h a w; intro a w h
       refine wvG h (by exact .t rfl) (fun hg => by (simp only [↓gval_on hg, ↓gval_and hg] at h); (have hg2 := hg; (simp only [Bool.and_eq_true, Bool.or_eq_true, Bool.not_eq_true', decide_eq_true_eq, decide_eq_false_iff_not] at hg2)); exact r_bin h rfl rfl (B.gtr_int)) rfl ?_
       clear h a w; intro a w h
       refine wv h (r_pickA h rfl rfl rfl) rfl ?_
       clear h a w; intro a w h
       refine wnil (c_then ?_)
       refine c_condP (p := near % 2 = 1 ∧ 0 < i) h rfl (by simp) (fun ht4 => ?_) (fun ht4 => ?_)
       ·
        have hy60 := z4 x0 ht4.2 hx0
        as_aux_lemma =>
         refine c_region ?_
         refine wv h (r_move h rfl) rfl ?_
         clear h a w; intro a w h
         refine wv h (r_elPv h rfl rfl K.u_S_S_uint8 K.sz_S_uint8 (((hv.cons _).cons _).cons _) 0 rfl (by omega)) rfl ?_
         clear h a w; intro a w h
         refine wv h (r_elG h rfl K.u_S_uint8 rfl (((hv.cons _).cons _).cons _) hyc) rfl ?_
         clear h a w; intro a w h
         refine wl rfl (op_appendnbs h rfl rfl K.u_S_uint8 K.sz_uint8 K.z_uint8 rfl rfl (Src.bytes K.u_S_uint8 (by exact ViewsB.of_drop 3 (by assumption)) h.2) (by omega) rfl ?_)
         clear h a w; intro v49 a w h
         refine wv h (r_move h rfl) rfl ?_
         clear h a w; intro a w h
         refine wl rfl (op_appendbs h rfl rfl K.u_S_uint8 K.sz_uint8 K.z_uint8 rfl rfl 0 rfl (Src.bytes K.u_S_uint8 (by exact ViewsB.own 1 rfl) h.2) (by omega) rfl ?_)
         clear h a w; intro v51 a w h
         (simp only [List.set_cons_zero, List.set_cons_succ] at h)
         refine wv h (r_assign h rfl) rfl ?_
         clear h a w; intro a w h
         refine wnil ?_
         replace h := h.mem (fun q => (q.front 1 rfl).tail)
         exact ⟨(v51, x0.p ++ x.p), h.keep [0, 1, 5, 6, 7], by simp only [List.length_append]; omega⟩
       ·
        refine c_skip ?_
        exact ⟨(v38, x.p), h.keep [0, 1, 5, 6, 7], by simp only; omega⟩
      ·
       clear h a w; intro z a w hz h
       obtain ⟨xv, p⟩ := z
       simp only at hz h
       refine c_meet h (X := Value × List UInt8) (fun z => [(0, v0), (1, bv near), (5, v5), (6, .int .i64 (i : Int)), (7, z.1)]) (fun z => OwnB z.1 z.2 :: OwnM 1 cellsS v5 ys :: BytI ys :: F) (fun z => 0 < z.2.length ∧ z.2.length ≤ 120) ?_ ?_
       ·
        refine c_seq (c_region ?_)
        refine wv h (r_move h rfl) rfl ?_
        clear h a w; intro a w h
        refine wv h (r_lenB h rfl K.u_S_uint8 (by exact ViewsB.own 0 rfl)) rfl ?_
        clear h a w; intro a w h
        refine wv h (r_bin h rfl rfl (B.eql_int)) rfl ?_
        clear h a w; intro a w h
        refine wnil (c_then ?_)
        refine c_condP (p := p.length = 0) h rfl (by simp) (fun ht5 => ?_) (fun ht5 => ?_)
        ·
         as_aux_lemma =>
          refine c_region ?_
          refine wv h (r_move h rfl) rfl ?_
          clear h a w; intro a w h
          refine wl rfl (op_buildSlice h K.u_S_uint8 K.sz_uint8 K.z_uint8 rfl rfl rfl rfl rfl (by simp [Value.cells, bv, w32, w64, sv]) rfl ?_)
          clear h a w; intro b56 a w h
          replace h := h.toOwnb [near] (NF.zero _) rfl rfl
          refine wv h (r_assign h rfl) rfl ?_
          clear h a w; intro a w h
          refine wnil ?_
          replace h := h.mem (fun q => (q.front 1 rfl).tail)
          exact ⟨(_, [near]), h.keep [0, 1, 5, 6, 7], by simp⟩
        ·
         refine c_skip ?_
         exact ⟨(xv, p), h.keep [0, 1, 5, 6, 7], by simp only; omega⟩
       ·
        clear h a w; intro z a w hz h
        obtain ⟨pv, p⟩ := z
        obtain ⟨y1, y2⟩ := hz
        simp only at y1 y2 h
        obtain ⟨A, cap, hpv, _⟩ := (Views.own 0 rfl : ViewsB (OwnB pv p :: _) pv p).shape h.2
        obtain ⟨u, hu⟩ : ∃ x : SlV, x = ⟨A, p.length, cap, p⟩ := ⟨_, rfl⟩
        have huv : u.v = pv := by rw [hu, hpv]
        have hup : u.p = p := by rw [hu]
        rw [← huv, ← hup] at h
        rw [← hup] at y1 y2
        refine c_region ?_
        refine wv h (r_move h rfl) rfl ?_
        clear h a w; intro a w h
        refine wv h (r_move h rfl) rfl ?_
        clear h a w; intro a w h
        refine wl rfl (op_buildO h K.u_S_S_uint8 K.sz_S_uint8 K.z_S_uint8 rfl rfl rfl rfl (by simp only [List.mem_cons, List.not_mem_nil, or_false, forall_eq_or_imp, forall_eq]; (repeat' apply And.intro) <;> rfl) rfl ?_)
        clear h a w; intro b59 a w h
        refine wl rfl (op_appendR1 (cells := cellsS) (u := u) h rfl rfl K.u_S_S_uint8 K.sz_S_uint8 K.z_S_uint8 rfl rfl 1 rfl (by omega) rfl ?_)
        clear h a w; intro v60 a w h
        simp only [List.set_cons_succ, List.set_cons_zero] at h
        refine wv h (r_assign h rfl) rfl ?_
        clear h a w; intro a w h
        refine wnil ?_
        refine b_normal ?_
        refine c_then ?_
        refine c_region ?_
        refine wv h (r_move h rfl) rfl ?_
        clear h a w; intro a w h
        refine wv h (r_bin h rfl rfl (B.add_i64 (by omega) (by omega))) rfl ?_
        clear h a w; intro a w h
        refine wv h (r_assign h rfl) rfl ?_
        clear h a w; intro a w h
        refine wnil ?_
        replace h := h.mem (fun q => ((satBytMore (x := u) (q.front 2 rfl)).front 1 rfl))
        refine ⟨(i + 1, v60, ys ++ [u]), h.keep [0, 1, 5, 6], ⟨ht2, by simp [z2], fun y hy => ?_, fun x' _ hx' => ?_⟩, by simp only; omega⟩
        · rcases List.mem_append.1 hy with hy | hy
          · exact z3 y hy
          · simp only [List.mem_singleton] at hy; subst hy; exact ⟨y1, y2⟩
        · rcases Nat.eq_zero_or_pos i with e | e
          · subst e
            rw [hx] at hx'; cases hx'
            omega
          · exact z4 x' e hx'
    ·
     have hok : ∀ y ∈ ys, OkP y.p := fun y hy => by have := z3 y hy; unfold OkP; omega
     obtain ⟨hl1, hl2⟩ := packP_len hok (by omega)
     have he := encP_pack hok (by omega)
     have hsl := (seal_back (packP ys)).1
     have hag : ∀ ws : List SlV, ws.map (·.p) = bytesI (srtd ys) → bytesI (srtd ws) = bytesI (srtd ys) := fun ws hw => srtd_again hw
     refine c_exit ?_
     refine e_then ?_
     refine e_then ?_
     refine e_here ?_
     refine c_then ?_
     refine c_seq (c_region ?_)
     refine wv h (r_move h rfl) rfl ?_
     clear h a w; intro a w h
     refine wl rfl (op_call h rfl K.go_pack_Encode (pack_Encode s _ v5 ys _ ((hT.cons _).cons _) ((hF.cons _).cons _) ((hC.cons _).cons _) (Views.own 0 rfl) (fun y hy => ⟨BytI.view 1 rfl y hy, by have := z3 y hy; omega⟩) (by omega) h.2) rfl ?_)
     clear h a w; intro v63 a w hz63 h
     rw [he] at h
     simp only [Option.isSome_some, Option.getD_some, if_true] at h
     refine wv h (r_move h rfl) rfl ?_
     clear h a w; intro a w h
     refine wv h (r_extractN h rfl rfl) rfl ?_
     clear h a w; intro a w h
     refine wv h (r_extractN h rfl rfl) rfl ?_
     clear h a w; intro a w h
     refine wv h (r_assign h rfl) rfl ?_
     clear h a w; intro a w h
     refine wv h (r_assign h rfl) rfl ?_
     clear h a w; intro a w h
     refine wnil (c_then ?_)
     refine c_seq (c_region ?_)
     refine wv h (r_move h rfl) rfl ?_
     clear h a w; intro a w h
     refine wl rfl (op_call h rfl K.go_pack_Decode (pack_Decode s _ v63 (sealP (packP ys)) _ (((hT.cons _).cons _).cons _) (((hF.cons _).cons _).cons _) (((hC.cons _).cons _).cons _) (Views.own 0 rfl) (by omega) h.2) rfl ?_)
     clear h a w; intro z68 a w hde h
     obtain ⟨v68, e68, zs⟩ := z68
     simp only at hde h
     obtain ⟨d1, d2⟩ := hde.back (bytesI (srtd ys)) (bytesI_ok hok) (by have := bytesI_len ys; omega) rfl hag
     rw [d1] at h
     have hzl2 := srtx_len ys
     have hzl : zs.length = (srtx ys).length := by have := congrArg List.length d2; rw [List.length_map, ← srtx_p, List.length_map] at this; exact this
     refine wv h (r_move h rfl) rfl ?_
     clear h a w; intro a w h
     refine wv h (r_extractN h rfl rfl) rfl ?_
     clear h a w; intro a w h
     refine wv h (r_extractN h rfl rfl) rfl ?_
     clear h a w; intro a w h
     refine wv h (r_assign h rfl) rfl ?_
     clear h a w; intro a w h
     refine wv h (r_assign h rfl) rfl ?_
     clear h a w; intro a w h
     refine wnil (c_then ?_)
     refine c_seq (c_region ?_)
     refine wv h (r_move h rfl) rfl ?_
     clear h a w; intro a w h
     refine wl rfl (op_call h rfl K.go_ref15_Sorted (ref_Sorted s _ v5 ys _ (Views.own 3 rfl) (fun y hy => ⟨BytI.view 4 rfl y hy, by have := z3 y hy; omega⟩) (by omega) h.2) rfl ?_)
     clear h a w; intro v72 a w hz72 h
     refine wv h (r_assign h rfl) rfl ?_
     clear h a w; intro a w h
     refine wnil (c_then ?_)
     refine c_seq ?_
     refine c_seq (c_drawn 21 K.mixed rfl h ?_)
     clear h a w; intro a w h
     have hD : Paid s w [] := Paid.nil
     refine d_take0 (listed' := #[true, false, false, false, false, false, false, false, false, false, false, false, false, false, false, false, false, false, false, false, false]) h hD 0 (by as_aux_lemma => kernel_rfl) rfl (by as_aux_lemma => kernel_rfl) (by as_aux_lemma => kernel_rfl) (by as_aux_lemma => kernel_rfl) (fun _ _ _ _ hh => hh) (fun w h => by exact r_move h rfl) rfl ?_
     clear hD h a w; intro a w h hD
     refine d_take0 (listed' := #[true, true, false, false, false, false, false, false, false, false, false, false, false, false, false, false, false, false, false, false, false]) h hD 1 (by as_aux_lemma => kernel_rfl) rfl (by as_aux_lemma => kernel_rfl) (by as_aux_lemma => kernel_rfl) (by as_aux_lemma => kernel_rfl) (fun _ _ _ _ hh => hh) (fun w h => by exact r_bin h rfl rfl (B.neq_int)) rfl ?_
     clear hD h a w; intro a w h hD
     refine d_take0 (listed' := #[true, true, true, false, false, false, false, false, false, false, false, false, false, false, false, false, false, false, false, false, false]) h hD 2 (by as_aux_lemma => kernel_rfl) rfl (by as_aux_lemma => kernel_rfl) (by as_aux_lemma => kernel_rfl) (by as_aux_lemma => kernel_rfl) (fun _ _ _ _ hh => hh) (fun w h => by exact r_move h rfl) rfl ?_
     clear hD h a w; intro a w h hD
     refine d_take0G (listed' := #[true, true, true, true, false, false, false, false, false, false, false, false, false, false, false, false, false, false, false, false, false]) h hD 3 (by as_aux_lemma => kernel_rfl) rfl (by as_aux_lemma => kernel_rfl) (by as_aux_lemma => kernel_rfl) (by as_aux_lemma => kernel_rfl) (fun _ _ _ _ hh => hh) (by exact .f rfl) (fun hg w h => by (have hg2 := hg; (simp only [Bool.and_eq_true, Bool.or_eq_true, Bool.not_eq_true', decide_eq_true_eq, decide_eq_false_iff_not] at hg2)); exact r_move h rfl) rfl ?_
     clear hD h a w; intro a w h hD
     refine d_takeG (listed' := #[true, true, true, true, true, false, false, false, false, false, false, false, false, false, false, false, false, false, false, false, false]) h hD 4 _ (by as_aux_lemma => kernel_rfl) rfl (by as_aux_lemma => kernel_rfl) (by as_aux_lemma => kernel_rfl) (by as_aux_lemma => kernel_rfl) (fun _ _ _ _ hh => hh) h.2 (by exact .f rfl) (fun hg w hw => by (simp only [↓gval_on hg, ↓gval_and hg] at h); (have hg2 := hg; (simp only [Bool.and_eq_true, Bool.or_eq_true, Bool.not_eq_true', decide_eq_true_eq, decide_eq_false_iff_not] at hg2)); exact r_b2sb ⟨h.1, hw⟩ rfl K.u_S_uint8 K.u_uint8 K.u_string (by exact ViewsB.own 3 rfl)) rfl ?_
     clear hD h a w; intro a w h hD
     refine d_take0G (listed' := #[true, true, true, true, true, true, false, false, false, false, false, false, false, false, false, false, false, false, false, false, false]) h hD 5 (by as_aux_lemma => kernel_rfl) rfl (by as_aux_lemma => kernel_rfl) (by as_aux_lemma => kernel_rfl) (by as_aux_lemma => kernel_rfl) (fun _ _ _ _ hh => hh) (by exact .f rfl) (fun hg w h => by (simp only [↓gval_on hg, ↓gval_and hg] at h); (have hg2 := hg; (simp only [Bool.and_eq_true, Bool.or_eq_true, Bool.not_eq_true', decide_eq_true_eq, decide_eq_false_iff_not] at hg2)); exact r_move h rfl) rfl ?_
     clear hD h a w; intro a w h hD
     refine d_onlyG (listed' := #[true, true, true, true, true, true, true, false, false, false, false, false, false, false, false, false, false, false, false, false, false]) h hD 6 [true] (by as_aux_lemma => kernel_rfl) rfl rfl (by exact .f rfl) (by as_aux_lemma => kernel_rfl) (by as_aux_lemma => kernel_rfl) (fun hg => ?_) (fun hg => by cases hg)
     refine op_call h rfl K.go_ref15_Pack (ref_Pack s _ v5 ys _ (Views.own 4 rfl) (fun y hy => ⟨BytI.view 5 rfl y hy, by have := z3 y hy; omega⟩) (by omega) h.2) rfl ?_
     clear hD h a w; intro v79 a w hz79 h
     rw [show headP (bytesI (srtd ys)).length ++ tailP none 0 (bytesI (srtd ys)) = packP ys from rfl] at h
     refine d_pay (Paid.cons (by exact h.2.drop 1) (Paid.nil)) (fun hD => ?_)
     refine d_takeG (listed' := #[true, true, true, true, true, true, true, true, false, false, false, false, false, false, false, false, false, false, false, false, false]) h hD 7 _ (by as_aux_lemma => kernel_rfl) rfl (by as_aux_lemma => kernel_rfl) (by as_aux_lemma => kernel_rfl) (by as_aux_lemma => kernel_rfl) (fun _ _ _ _ hh => hh) h.2 (by exact .f rfl) (fun hg w hw => by (simp only [↓gval_on hg, ↓gval_and hg] at h); (have hg2 := hg; (simp only [Bool.and_eq_true, Bool.or_eq_true, Bool.not_eq_true', decide_eq_true_eq, decide_eq_false_iff_not] at hg2)); exact r_b2sb ⟨h.1, hw⟩ rfl K.u_S_uint8 K.u_uint8 K.u_string (by exact ViewsB.own 0 rfl)) rfl ?_
     clear hD h a w; intro a w h hD
     refine d_take0G (listed' := #[true, true, true, true, true, true, true, true, true, false, false, false, false, false, false, false, false, false, false, false, false]) h hD 8 (by as_aux_lemma => kernel_rfl) rfl (by as_aux_lemma => kernel_rfl) (by as_aux_lemma => kernel_rfl) (by as_aux_lemma => kernel_rfl) (fun _ _ _ _ hh => hh) (by exact .f rfl) (fun hg w h => by (simp only [↓gval_on hg, ↓gval_and hg] at h); (have hg2 := hg; (simp only [Bool.and_eq_true, Bool.or_eq_true, Bool.not_eq_true', decide_eq_true_eq, decide_eq_false_iff_not] at hg2)); exact r_strne h rfl rfl) rfl ?_
     clear hD h a w; intro a w h hD
     refine d_take0 (listed' := #[true, true, true, true, true, true, true, true, true, true, false, false, false, false, false, false, false, false, false, false, false]) h hD 9 (by as_aux_lemma => kernel_rfl) rfl (by as_aux_lemma => kernel_rfl) (by as_aux_lemma => kernel_rfl) (by as_aux_lemma => kernel_rfl) (fun _ _ _ _ hh => hh) (fun w h => by exact r_pickO h rfl rfl rfl) rfl ?_
     clear hD h a w; intro a w h hD
     refine d_take0 (listed' := #[true, true, true, true, true, true, true, true, true, true, true, false, false, false, false, false, false, false, false, false, false]) h hD 10 (by as_aux_lemma => kernel_rfl) rfl (by as_aux_lemma => kernel_rfl) (by as_aux_lemma => kernel_rfl) (by as_aux_lemma => kernel_rfl) (fun _ _ _ _ hh => hh) (fun w h => by exact r_move h rfl) rfl ?_
     clear hD h a w; intro a w h hD
     refine d_take0G (listed' := #[true, true, true, true, true, true, true, true, true, true, true, true, false, false, false, false, false, false, false, false, false]) h hD 11 (by as_aux_lemma => kernel_rfl) rfl (by as_aux_lemma => kernel_rfl) (by as_aux_lemma => kernel_rfl) (by as_aux_lemma => kernel_rfl) (fun _ _ _ _ hh => hh) (by exact .f rfl) (fun hg w h => by (have hg2 := hg; (simp only [Bool.and_eq_true, Bool.or_eq_true, Bool.not_eq_true', decide_eq_true_eq, decide_eq_false_iff_not] at hg2)); exact r_move h rfl) rfl ?_
     clear hD h a w; intro a w h hD
     refine d_take0G (listed' := #[true, true, true, true, true, true, true, true, true, true, true, true, true, false, false, false, false, false, false, false, false]) h hD 12 (by as_aux_lemma => kernel_rfl) rfl (by as_aux_lemma => kernel_rfl) (by as_aux_lemma => kernel_rfl) (by as_aux_lemma => kernel_rfl) (fun _ _ _ _ hh => hh) (by exact .f rfl) (fun hg w h => by (simp only [↓gval_on hg, ↓gval_and hg] at h); (have hg2 := hg; (simp only [Bool.and_eq_true, Bool.or_eq_true, Bool.not_eq_true', decide_eq_true_eq, decide_eq_false_iff_not] at hg2)); exact r_bin h rfl rfl (B.neq_int)) rfl ?_
     clear hD h a w; intro a w h hD
     refine d_take0 (listed' := #[true, true, true, true, true, true, true, true, true, true, true, true, true, true, false, false, false, false, false, false, false]) h hD 13 (by as_aux_lemma => kernel_rfl) rfl (by as_aux_lemma => kernel_rfl) (by as_aux_lemma => kernel_rfl) (by as_aux_lemma => kernel_rfl) (fun _ _ _ _ hh => hh) (fun w h => by exact r_pickO h rfl rfl rfl) rfl ?_
     clear hD h a w; intro a w h hD
     refine d_take0 (listed' := #[true, true, true, true, true, true, true, true, true, true, true, true, true, true, true, false, false, false, false, false, false]) h hD 14 (by as_aux_lemma => kernel_rfl) rfl (by as_aux_lemma => kernel_rfl) (by as_aux_lemma => kernel_rfl) (by as_aux_lemma => kernel_rfl) (fun _ _ _ _ hh => hh) (fun w h => by exact r_move h rfl) rfl ?_
     clear hD h a w; intro a w h hD
     refine d_take0G (listed' := #[true, true, true, true, true, true, true, true, true, true, true, true, true, true, true, true, false, false, false, false, false]) h hD 15 (by as_aux_lemma => kernel_rfl) rfl (by as_aux_lemma => kernel_rfl) (by as_aux_lemma => kernel_rfl) (by as_aux_lemma => kernel_rfl) (fun _ _ _ _ hh => hh) (by exact .f rfl) (fun hg w h => by (have hg2 := hg; (simp only [Bool.and_eq_true, Bool.or_eq_true, Bool.not_eq_true', decide_eq_true_eq, decide_eq_false_iff_not] at hg2)); exact r_move h rfl) rfl ?_
     clear hD h a w; intro a w h hD
     refine d_takeG (listed' := #[true, true, true, true, true, true, true, true, true, true, true, true, true, true, true, true, true, false, false, false, false]) h hD 16 _ (by as_aux_lemma => kernel_rfl) rfl (by as_aux_lemma => kernel_rfl) (by as_aux_lemma => kernel_rfl) (by as_aux_lemma => kernel_rfl) (fun _ _ _ _ hh => hh) h.2 (by exact .f rfl) (fun hg w hw => by (simp only [↓gval_on hg, ↓gval_and hg] at h); (have hg2 := hg; (simp only [Bool.and_eq_true, Bool.or_eq_true, Bool.not_eq_true', decide_eq_true_eq, decide_eq_false_iff_not] at hg2)); exact r_lenV ⟨h.1, hw⟩ rfl K.u_S_S_uint8 (by exact Views.own 2 rfl)) rfl ?_
     clear hD h a w; intro a w h hD
     refine d_take0G (listed' := #[true, true, true, true, true, true, true, true, true, true, true, true, true, true, true, true, true, true, false, false, false]) h hD 17 (by as_aux_lemma => kernel_rfl) rfl (by as_aux_lemma => kernel_rfl) (by as_aux_lemma => kernel_rfl) (by as_aux_lemma => kernel_rfl) (fun _ _ _ _ hh => hh) (by exact .f rfl) (fun hg w h => by (simp only [↓gval_on hg, ↓gval_and hg] at h); (have hg2 := hg; (simp only [Bool.and_eq_true, Bool.or_eq_true, Bool.not_eq_true', decide_eq_true_eq, decide_eq_false_iff_not] at hg2)); exact r_move h rfl) rfl ?_
     clear hD h a w; intro a w h hD
     refine d_takeG (listed' := #[true, true, true, true, true, true, true, true, true, true, true, true, true, true, true, true, true, true, true, false, false]) h hD 18 _ (by as_aux_lemma => kernel_rfl) rfl (by as_aux_lemma => kernel_rfl) (by as_aux_lemma => kernel_rfl) (by as_aux_lemma => kernel_rfl) (fun _ _ _ _ hh => hh) h.2 (by exact .f rfl) (fun hg w hw => by (simp only [↓gval_on hg, ↓gval_and hg] at h); (have hg2 := hg; (simp only [Bool.and_eq_true, Bool.or_eq_true, Bool.not_eq_true', decide_eq_true_eq, decide_eq_false_iff_not] at hg2)); exact r_lenV ⟨h.1, hw⟩ rfl K.u_S_S_uint8 (by exact Views.own 1 rfl)) rfl ?_
     clear hD h a w; intro a w h hD
     refine d_take0G (listed' := #[true, true, true, true, true, true, true, true, true, true, true, true, true, true, true, true, true, true, true, true, false]) h hD 19 (by as_aux_lemma => kernel_rfl) rfl (by as_aux_lemma => kernel_rfl) (by as_aux_lemma => kernel_rfl) (by as_aux_lemma => kernel_rfl) (fun _ _ _ _ hh => hh) (by exact .f rfl) (fun hg w h => by (simp only [↓gval_on hg, ↓gval_and hg] at h); (have hg2 := hg; (simp only [Bool.and_eq_true, Bool.or_eq_true, Bool.not_eq_true', decide_eq_true_eq, decide_eq_false_iff_not] at hg2)); exact r_bin h rfl rfl (B.neq_int)) rfl ?_
     clear hD h a w; intro a w h hD
     refine d_take0 (listed' := #[true, true, true, true, true, true, true, true, true, true, true, true, true, true, true, true, true, true, true, true, true]) h hD 20 (by as_aux_lemma => kernel_rfl) rfl (by as_aux_lemma => kernel_rfl) (by as_aux_lemma => kernel_rfl) (by as_aux_lemma => kernel_rfl) (fun _ _ _ _ hh => hh) (fun w h => by exact r_pickO h rfl rfl rfl) rfl ?_
     clear hD h a w; intro a w h hD
     refine d_done (by kernel_rfl) ?_
     clear hD
     refine c_then ?_
     refine c_condP (p := False) h rfl (by simp [hzl]) (fun ht6 => ?_) (fun ht6 => ?_)
     ·
      exact ht6.elim
     ·
      refine c_skip ?_
      refine c_then ?_
      refine c_seq ?_
      refine c_seq (c_region ?_)
      refine wv h (r_assign h rfl) rfl ?_
      clear h a w; intro a w h
      refine wnil (c_then ?_)
      refine c_block ?_
      refine c_loop (X := Nat) (fun z => [(10, v68), (12, v72), (13, .int .i64 (z : Int))]) (fun z => OwnB v79 (sealP (packP ys)) :: OwnL SlV.v v72 (srtx ys) :: OwnM 1 cellsS v68 zs :: BytI zs :: OwnB v63 (sealP (packP ys)) :: OwnM 1 cellsS v5 ys :: BytI ys :: F)
        (fun z => z ≤ zs.length) (fun z => zs.length - z) 0 (h.keep [10, 12, 13]) (Nat.zero_le _) ?_
      clear h a w; intro j a w hj h
      as_aux_lemma =>
       refine c_seq ?_
       refine c_seq (c_region ?_)
       refine wv h (r_move h rfl) rfl ?_
       clear h a w; intro a w h
       refine wv h (r_move h rfl) rfl ?_
       clear h a w; intro a w h
       refine wv h (r_lenV h rfl K.u_S_S_uint8 (by exact Views.own 2 rfl)) rfl ?_
       clear h a w; intro a w h
       refine wv h (r_bin h rfl rfl (B.lss_int)) rfl ?_
       clear h a w; intro a w h
       refine wnil (c_then ?_)
       refine c_condP (p := j < zs.length) h rfl (by simp) (fun ht7 => ?_) (fun ht7 => ?_)
       ·
        obtain ⟨zj, hzj⟩ : ∃ x, zs[j]? = some x := ⟨_, List.getElem?_eq_getElem ht7⟩
        obtain ⟨sj, hsj⟩ : ∃ x, (srtx ys)[j]? = some x := ⟨_, List.getElem?_eq_getElem (by omega)⟩
        have hzc : (zs.flatMap cellsS)[j * 1]? = some zj.v := by rw [flatS, Nat.mul_one, List.getElem?_map, hzj]; rfl
        have hsc : ((srtx ys).map SlV.v)[j * 1]? = some sj.v := by rw [Nat.mul_one, List.getElem?_map, hsj]; rfl
        have hpp : zj.p = sj.p := by
          have e := congrArg (fun l : List (List UInt8) => l[j]?) d2
          simp only [← srtx_p, List.getElem?_map, hzj, hsj, Option.map_some] at e
          exact Option.some.inj e
        have hzm := List.mem_of_getElem? hzj
        have hsm := srtx_mem (List.mem_of_getElem? hsj)
        refine c_skip ?_
        refine c_then ?_
        refine c_seq ?_
        refine c_block ?_
        refine c_seq (c_draw K.mixed (by kernel_rfl) h ?_)
        clear h a w; intro a hE
        refine qv hE (fun w hw => r_move ⟨hE, hw⟩ rfl) rfl ?_
        clear hE a; intro a hE
        refine qv hE (fun w hw => r_move ⟨hE, hw⟩ rfl) rfl ?_
        clear hE a; intro a hE
        refine qv hE (fun w hw => r_elPv ⟨hE, hw⟩ rfl rfl K.u_S_S_uint8 K.sz_S_uint8 (Views.own 2 rfl) j rfl ht7) rfl ?_
        clear hE a; intro a hE
        refine qv hE (fun w hw => r_elG ⟨hE, hw⟩ rfl K.u_S_uint8 rfl (Views.own 2 rfl) hzc) rfl ?_
        clear hE a; intro a hE
        refine qv hE (fun w hw => r_b2sb ⟨hE, hw⟩ rfl K.u_S_uint8 K.u_uint8 K.u_string (BytI.view 3 rfl zj hzm)) rfl ?_
        clear hE a; intro a hE
        refine qv hE (fun w hw => r_move ⟨hE, hw⟩ rfl) rfl ?_
        clear hE a; intro a hE
        refine qv hE (fun w hw => r_move ⟨hE, hw⟩ rfl) rfl ?_
        clear hE a; intro a hE
        refine qv hE (fun w hw => r_elPv ⟨hE, hw⟩ rfl rfl K.u_S_S_uint8 K.sz_S_uint8 (Views.own 1 rfl) j rfl (by omega)) rfl ?_
        clear hE a; intro a hE
        refine qv hE (fun w hw => r_elG ⟨hE, hw⟩ rfl K.u_S_uint8 rfl (Views.own 1 rfl) hsc) rfl ?_
        clear hE a; intro a hE
        refine qv hE (fun w hw => r_b2sb ⟨hE, hw⟩ rfl K.u_S_uint8 K.u_uint8 K.u_string (BytI.view 6 rfl sj hsm)) rfl ?_
        clear hE a; intro a hE
        refine qv hE (fun w hw => r_strne ⟨hE, hw⟩ rfl rfl) rfl ?_
        clear hE a; intro a hE
        refine qnil hE ?_
        clear hE a; intro a w h
        refine c_then ?_
        refine c_condP (p := False) h rfl (by simp [hpp]) (fun ht8 => ?_) (fun ht8 => ?_)
        ·
         exact ht8.elim
        ·
         refine c_skip ?_
         refine b_normal ?_
         refine c_then ?_
         refine c_region ?_
         refine wv h (r_move h rfl) rfl ?_
         clear h a w; intro a w h
         refine wv h (r_bin h rfl rfl (B.add_i64 (by omega) (by omega))) rfl ?_
         clear h a w; intro a w h
         refine wv h (r_assign h rfl) rfl ?_
         clear h a w; intro a w h
         refine wnil ?_
         exact ⟨j + 1, h.keep [10, 12, 13], ht7, by omega⟩
       ·
        refine c_exit ?_
        refine e_then ?_
        refine e_then ?_
        refine e_here ?_
        refine c_then ?_
        refine c_seq (c_region ?_)
        refine wv h (r_assign h rfl) rfl ?_
        clear h a w; intro a w h
        refine wnil (c_then ?_)
        refine c_ret ?_
        exact ret1 h rfl rfl ⟨(), rfl, h.2.drop 7, trivial⟩
end Go.Proofs.K

/- The laws of layer 16, walked: PackReads. -/
namespace Go.Proofs.K
open Go.Sl
attribute [local irreducible] Go.Sl.Own Go.Sl.Blk Go.Sl.Sep Go.Sl.Ex Go.Sl.Fact
theorem law16_PackReads (s w : World) (v0 v1 : Value) (p : List UInt8) (xs : List SlV) (at_ : UInt16) (turn : UInt8) (seal_ : Bool) (F : List HItem) (hT : HasParts F) (hF : HasFirst F) (hC : HasLines F) (hv0 : ViewsB F v0 p) (hv : Views F 1 v1 xs.length (xs.flatMap cellsS)) (hp : ∀ x ∈ xs, ViewsB F x.v x.p) (hs : Sat s w F) :
    Calls P n_law16_PackReads #[v0, v1, w16 at_, bv turn, .bool seal_] w (Ret s (fun _ : Unit => .bool true) (fun _ => F) (fun _ => True)) := by
  have hone0 : v0.oneCell' = true := by
    obtain ⟨A, cap, hsv, _⟩ := hv0.shape hs
    rw [hsv]; rfl
  refine enter K.fn_law16_PackReads rfl K.nt_law16_PackReads rfl hs ?_
  clear hs w; intro a w h
  refine c_seq (c_region ?_)
  refine wv h (r_assign h rfl) rfl ?_
  clear h a w; intro a w h
  refine wnil (c_then ?_)
  refine c_seq ?_
  refine c_seq (c_region ?_)
  refine wl rfl (op_call h rfl K.go_law16_awake (law16_awake s _ _ hT hF hC h.2) rfl ?_)
  clear h a w; intro z21 a w hz21 h
  (simp only [List.set_cons_zero, List.set_cons_succ] at h)
  refine wv h (r_not h rfl) rfl ?_
  clear h a w; intro a w h
  refine wv h (r_move h rfl) rfl ?_
  clear h a w; intro a w h
  refine wvG h (by exact .f rfl) (fun hg => by (have hg2 := hg; (simp only [Bool.and_eq_true, Bool.or_eq_true, Bool.not_eq_true', decide_eq_true_eq, decide_eq_false_iff_not] at hg2)); exact r_move h rfl) rfl ?_
  clear h a w; intro a w h
  refine wvG h (by exact .f rfl) (fun hg => by (simp only [↓gval_on hg, ↓gval_and hg] at h); (have hg2 := hg; (simp only [Bool.and_eq_true, Bool.or_eq_true, Bool.not_eq_true', decide_eq_true_eq, decide_eq_false_iff_not] at hg2)); exact r_lenB h rfl K.u_S_uint8 (by assumption)) rfl ?_
  clear h a w; intro a w h
  refine wvG h (by exact .f rfl) (fun hg => by (simp only [↓gval_on hg, ↓gval_and hg] at h); (have hg2 := hg; (simp only [Bool.and_eq_true, Bool.or_eq_true, Bool.not_eq_true', decide_eq_true_eq, decide_eq_false_iff_not] at hg2)); exact r_bin h rfl rfl (B.gtr_int)) rfl ?_
  clear h a w; intro a w h
  refine wv h (r_pickO h rfl rfl rfl) rfl ?_
  clear h a w; intro a w h
  refine wv h (r_move h rfl) rfl ?_
  clear h a w; intro a w h
  refine wvG h (by exact .f rfl) (fun hg => by (have hg2 := hg; (simp only [Bool.and_eq_true, Bool.or_eq_true, Bool.not_eq_true', decide_eq_true_eq, decide_eq_false_iff_not] at hg2)); exact r_move h rfl) rfl ?_
  clear h a w; intro a w h
  refine wvG h (by exact .f rfl) (fun hg => by (simp only [↓gval_on hg, ↓gval_and hg] at h); (have hg2 := hg; (simp only [Bool.and_eq_true, Bool.or_eq_true, Bool.not_eq_true', decide_eq_true_eq, decide_eq_false_iff_not] at hg2)); exact r_lenV h rfl K.u_S_S_uint8 (by assumption)) rfl ?_
  clear h a w; intro a w h
  refine wvG h (by exact .f rfl) (fun hg => by (simp only [↓gval_on hg, ↓gval_and hg] at h); (have hg2 := hg; (simp only [Bool.and_eq_true, Bool.or_eq_true, Bool.not_eq_true', decide_eq_true_eq, decide_eq_false_iff_not] at hg2)); exact r_bin h rfl rfl (B.gtr_int)) rfl ?_
  clear h a w; intro a w h
  refine wv h (r_pickO h rfl rfl rfl) rfl ?_
  clear h a w; intro a w h
  refine wnil (c_then ?_)
  refine c_condP (p := 100 < p.length ∨ 5 < xs.length) h rfl (by simp only [Bool.not_true, Bool.false_or, Bool.or_eq_true, decide_eq_true_eq]; omega) (fun ht1 => ?_) (fun ht1 => ?_)
  ·
   as_aux_lemma =>
    refine c_seq (c_region ?_)
    refine wl rfl (op_call h rfl K.go_law16_awake (law16_awake s _ _ hT hF hC h.2) rfl ?_)
    clear h a w; intro z33 a w hz33 h
    refine wv h (r_assign h rfl) rfl ?_
    clear h a w; intro a w h
    refine wnil (c_then ?_)
    refine c_ret ?_
    exact ret1 h rfl rfl ⟨(), rfl, h.2, trivial⟩
  ·
   refine c_skip ?_
   refine c_then ?_
   refine c_seq (c_region ?_)
   refine wv h (r_assign h rfl) rfl ?_
   clear h a w; intro a w h
   refine wnil (c_then ?_)
   refine c_seq ?_
   refine c_seq (c_region ?_)
   refine wv h (r_assign h rfl) rfl ?_
   clear h a w; intro a w h
   refine wnil (c_then ?_)
   refine c_block ?_
   replace h : St _ _ _ _ _ (OwnM 1 cellsS (.slice none 0 0) [] :: BytI [] :: F) := St.addNilM (size := 1) (cells := cellsS) ⟨h.1, satBytNil h.2⟩
   refine c_loop (X := Nat × Value × List SlV) (fun z => [(0, v0), (1, v1), (2, w16 at_), (3, bv turn), (4, .bool seal_), (11, z.2.1), (12, .int .i64 (z.1 : Int))]) (fun z => OwnM 1 cellsS z.2.1 z.2.2 :: BytI z.2.2 :: F)
     (fun z => z.1 ≤ xs.length ∧ z.2.2.length = z.1 ∧ ∀ y ∈ z.2.2, 0 < y.p.length ∧ y.p.length ≤ 50) (fun z => xs.length - z.1) (0, .slice none 0 0, []) (h.keep [0, 1, 2, 3, 4, 11, 12]) ⟨Nat.zero_le _, rfl, fun y hy => absurd hy (by simp)⟩ ?_
   clear h a w; intro z a w hz h
   obtain ⟨i, v11, ys⟩ := z
   obtain ⟨z1, z2, z3⟩ := hz
   simp only at z1 z2 z3 h
   as_aux_lemma =>
    refine c_seq ?_
    refine c_seq (c_region ?_)
    refine wv h (r_move h rfl) rfl ?_
    clear h a w; intro a w h
    refine wv h (r_move h rfl) rfl ?_
    clear h a w; intro a w h
    refine wv h (r_lenV h rfl K.u_S_S_uint8 (by exact Views.of_drop 2 (by assumption))) rfl ?_
    clear h a w; intro a w h
    refine wv h (r_bin h rfl rfl (B.lss_int)) rfl ?_
    clear h a w; intro a w h
    refine wnil (c_then ?_)
    refine c_condP (p := i < xs.length) h rfl (by simp) (fun ht2 => ?_) (fun ht2 => ?_)
    ·
     obtain ⟨x, hx⟩ : ∃ x, xs[i]? = some x := ⟨_, List.getElem?_eq_getElem ht2⟩
     have hxv := hp x (List.mem_of_getElem? hx)
     have hxc : (xs.flatMap cellsS)[i * 1]? = some x.v := by rw [flatS, Nat.mul_one, List.getElem?_map, hx]; rfl
     refine c_skip ?_
     refine c_then ?_
     refine c_seq ?_
     refine c_block ?_
     refine c_seq ?_
     refine c_seq (c_region ?_)
     refine wv h (r_move h rfl) rfl ?_
     clear h a w; intro a w h
     refine wv h (r_move h rfl) rfl ?_
     clear h a w; intro a w h
     refine wv h (r_elPv h rfl rfl K.u_S_S_uint8 K.sz_S_uint8 ((hv.cons _).cons _) i rfl ht2) rfl ?_
     clear h a w; intro a w h
     refine wv h (r_elG h rfl K.u_S_uint8 rfl ((hv.cons _).cons _) hxc) rfl ?_
     clear h a w; intro a w h
     refine wv h (r_lenB h rfl K.u_S_uint8 (by exact ViewsB.of_drop 2 (by assumption))) rfl ?_
     clear h a w; intro a w h
     refine wv h (r_bin h rfl rfl (B.gtr_int)) rfl ?_
     clear h a w; intro a w h
     refine wnil (c_then ?_)
     refine c_condP (p := 40 < x.p.length) h rfl (by simp; omega) (fun ht3 => ?_) (fun ht3 => ?_)
     ·
      as_aux_lemma =>
       refine c_seq (c_region ?_)
       refine wv h (r_assign h rfl) rfl ?_
       clear h a w; intro a w h
       refine wnil (c_then ?_)
       refine c_ret ?_
       exact ret1 h rfl rfl ⟨(), rfl, h.2.tail.tail, trivial⟩
     ·
      refine c_skip ?_
      refine c_then ?_
      refine c_region ?_
      refine wv h (r_move h rfl) rfl ?_
      clear h a w; intro a w h
      refine wl rfl (op_buildSlice h K.u_S_uint8 K.sz_uint8 K.z_uint8 rfl rfl rfl rfl rfl (by simp [Value.cells, bv, w32, w64, sv]) rfl ?_)
      clear h a w; intro b47 a w h
      refine wl rfl (op_lit h rfl K.u_S_uint8 K.u_uint8 0 rfl rfl ?_)
      clear h a w; intro a w h
      (simp only [List.set_cons_zero, List.set_cons_succ] at h)
      replace h := h.toOwnb [115, 111, 109, 101, 32, 98, 121, 116, 101, 115] (NF.past _) rfl rfl
      refine wv h (r_move h rfl) rfl ?_
      clear h a w; intro a w h
      refine wv h (r_move h rfl) rfl ?_
      clear h a w; intro a w h
      refine wv h (r_elPv h rfl rfl K.u_S_S_uint8 K.sz_S_uint8 (((hv.cons _).cons _).cons _) i rfl ht2) rfl ?_
      clear h a w; intro a w h
      refine wv h (r_elG h rfl K.u_S_uint8 rfl (((hv.cons _).cons _).cons _) hxc) rfl ?_
      clear h a w; intro a w h
      refine wl rfl (op_appendbs h rfl rfl K.u_S_uint8 K.sz_uint8 K.z_uint8 rfl rfl 0 rfl (Src.bytes K.u_S_uint8 (by exact ViewsB.of_drop 3 (by assumption)) h.2) (by (simp only [List.length_cons, List.length_nil]; omega)) rfl ?_)
      clear h a w; intro pv a w h
      (simp only [List.set_cons_zero, List.set_cons_succ] at h)
      obtain ⟨q, hq⟩ : ∃ q, q = ([115, 111, 109, 101, 32, 98, 121, 116, 101, 115] : List UInt8) ++ x.p := ⟨_, rfl⟩
      rw [← hq] at h
      have hql : 0 < q.length ∧ q.length ≤ 50 := by rw [hq, List.length_append]; simp only [List.length_cons, List.length_nil]; omega
      obtain ⟨A, cap, hpv, _⟩ := (Views.own 0 rfl : ViewsB (OwnB pv q :: _) pv q).shape h.2
      obtain ⟨u, hu⟩ : ∃ x : SlV, x = ⟨A, q.length, cap, q⟩ := ⟨_, rfl⟩
      have huv : u.v = pv := by rw [hu, hpv]
      have hup : u.p = q := by rw [hu]
      rw [← huv, ← hup] at h
      rw [← hup] at hql
      refine wl rfl (op_buildO h K.u_S_S_uint8 K.sz_S_uint8 K.z_S_uint8 rfl rfl rfl rfl (by simp only [List.mem_cons, List.not_mem_nil, or_false, forall_eq_or_imp, forall_eq]; (repeat' apply And.intro) <;> rfl) rfl ?_)
      clear h a w; intro b54 a w h
      refine wl rfl (op_appendR1 (cells := cellsS) (u := u) h rfl rfl K.u_S_S_uint8 K.sz_S_uint8 K.z_S_uint8 rfl rfl 1 rfl (by omega) rfl ?_)
      clear h a w; intro v55 a w h
      simp only [List.set_cons_succ, List.set_cons_zero] at h
      refine wv h (r_assign h rfl) rfl ?_
      clear h a w; intro a w h
      refine wnil ?_
      refine b_normal ?_
      refine c_then ?_
      refine c_region ?_
      refine wv h (r_move h rfl) rfl ?_
      clear h a w; intro a w h
      refine wv h (r_bin h rfl rfl (B.add_i64 (by omega) (by omega))) rfl ?_
      clear h a w; intro a w h
      refine wv h (r_assign h rfl) rfl ?_
      clear h a w; intro a w h
      refine wnil ?_
      replace h := h.mem (fun q => ((satBytMore (x := u) (q.front 2 rfl)).front 1 rfl))
      refine ⟨(i + 1, v55, ys ++ [u]), h.keep [0, 1, 2, 3, 4, 11, 12], ⟨ht2, by simp [z2], fun y hy => ?_⟩, by simp only; omega⟩
      rcases List.mem_append.1 hy with hy | hy
      · exact z3 y hy
      · simp only [List.mem_singleton] at hy; subst hy; exact hql
    ·
     have hok : ∀ y ∈ ys, OkP y.p := fun y hy => by have := z3 y hy; unfold OkP; omega
     obtain ⟨hl1, hl2⟩ := packP_len hok (by omega)
     have hsl := (seal_back (packP ys)).1
     refine c_exit ?_
     refine e_then ?_
     refine e_then ?_
     refine e_here ?_
     refine c_then ?_
     refine c_seq (c_region ?_)
     refine wv h (r_move h rfl) rfl ?_
     clear h a w; intro a w h
     refine wl rfl (op_call h rfl K.go_ref15_Pack (ref_Pack s _ v11 ys _ (Views.own 0 rfl) (fun y hy => ⟨BytI.view 1 rfl y hy, by have := z3 y hy; omega⟩) (by omega) h.2) rfl ?_)
     clear h a w; intro v57 a w hz57 h
     rw [show headP (bytesI (srtd ys)).length ++ tailP none 0 (bytesI (srtd ys)) = packP ys from rfl] at h
     replace h : St _ _ _ _ _ (OwnB v57 (sealP (packP ys)) :: F) := ⟨h.1, ((h.2.front 1 rfl).front 2 rfl).tail.tail⟩
     obtain ⟨Q, hQ⟩ : ∃ Q, Q = sealP (packP ys) := ⟨_, rfl⟩
     have hQl : Q.length = (packP ys).length + 4 := by rw [hQ]; exact hsl
     rw [← hQ] at h
     refine wv h (r_assign h rfl) rfl ?_
     clear h a w; intro a w h
     refine wnil (c_then ?_)
     refine c_seq (c_region ?_)
     refine wv h (r_move h rfl) rfl ?_
     clear h a w; intro a w h
     refine wv h (r_move h rfl) rfl ?_
     clear h a w; intro a w h
     refine wv h (r_lenB h rfl K.u_S_uint8 (by exact ViewsB.own 0 rfl)) rfl ?_
     clear h a w; intro a w h
     refine wv h (r_bin h rfl rfl (B.sub_i64 (by omega) (by omega))) rfl ?_
     clear h a w; intro a w h
     obtain ⟨m, hm⟩ : ∃ m, m = Q.length - 4 := ⟨_, rfl⟩
     rw [show ((Q.length : Int) - 4) = (m : Int) by omega] at h
     refine wl rfl (op_sliceOwnb h rfl K.u_S_uint8 K.sz_uint8 0 rfl 0 m rfl ⟨_, rfl⟩ (by omega) (by omega) rfl ?_)
     clear h a w; intro v62 a w h
     simp only [List.set_cons_zero, List.drop_zero, Nat.sub_zero] at h
     obtain ⟨R, hR⟩ : ∃ R, R = Q.take m := ⟨_, rfl⟩
     have hRl : R.length = m := by rw [hR, List.length_take]; omega
     rw [← hR] at h
     refine wv h (r_assign h rfl) rfl ?_
     clear h a w; intro a w h
     refine wnil (c_then ?_)
     refine c_seq (c_region ?_)
     refine wv h (r_move h rfl) rfl ?_
     clear h a w; intro a w h
     refine wv h (r_move h rfl) rfl ?_
     clear h a w; intro a w h
     refine wv h (r_conv h rfl K.u_uint16 K.u_int (C.i64_u16) ) rfl ?_
     clear h a w; intro a w h
     refine wv h (r_move h rfl) rfl ?_
     clear h a w; intro a w h
     refine wv h (r_lenB h rfl K.u_S_uint8 (by exact ViewsB.own 0 rfl)) rfl ?_
     clear h a w; intro a w h
     refine wv h (r_bin h rfl rfl (B.rem_i64 (by omega) (by omega))) rfl ?_
     clear h a w; intro a w h
     obtain ⟨k, hk⟩ : ∃ k : Nat, k = at_.toNat % R.length := ⟨_, rfl⟩
     have hk2 : k < R.length := by rw [hk]; exact Nat.mod_lt _ (by omega)
     rw [show ((at_.toNat : Int) % (R.length : Int)) = (k : Int) by rw [hk]; simp] at h
     refine wv h (r_elP h rfl rfl K.u_S_uint8 K.sz_uint8 (by exact ViewsB.own 0 rfl) (by omega) (by omega)) rfl ?_
     clear h a w; intro a w h
     refine wv h (r_elb h rfl K.u_uint8 rfl (by exact ViewsB.own 0 rfl) (by omega)) rfl ?_
     clear h a w; intro a w h
     refine wv h (r_move h rfl) rfl ?_
     clear h a w; intro a w h
     refine wv h (r_bin h rfl rfl (B.xor_u8)) rfl ?_
     clear h a w; intro a w h
     refine wv h (r_elP h rfl rfl K.u_S_uint8 K.sz_uint8 (by exact ViewsB.own 0 rfl) (by omega) (by omega)) rfl ?_
     clear h a w; intro a w h
     refine wl rfl (op_storeEb h rfl rfl K.sz_uint8 0 rfl (by omega) ?_)
     clear h a w; intro a w h
     (simp only [List.set_cons_zero, List.set_cons_succ] at h)
     obtain ⟨QB, hB⟩ : ∃ QB, QB = R.set k (R.getD k 0 ^^^ turn) := ⟨_, rfl⟩
     have hBl : QB.length = m := by rw [hB, List.length_set, hRl]
     rw [← hB] at h
     refine wnil (c_then ?_)
     refine c_seq ?_
     refine c_seq (c_region ?_)
     refine wv h (r_move h rfl) rfl ?_
     clear h a w; intro a w h
     refine wv h (r_move h rfl) rfl ?_
     clear h a w; intro a w h
     refine wl rfl (op_buildSlice h K.u_S_uint8 K.sz_uint8 K.z_uint8 rfl rfl rfl rfl rfl (by simp [Value.cells, bv, w32, w64, sv]) rfl ?_)
     clear h a w; intro b76 a w h
     refine wl rfl (op_lit h rfl K.u_S_uint8 K.u_uint8 0 rfl rfl ?_)
     clear h a w; intro a w h
     (simp only [List.set_cons_zero, List.set_cons_succ] at h)
     replace h := h.toOwnb [80, 49] (NF.past _) rfl rfl
     refine wv h (r_move h rfl) rfl ?_
     clear h a w; intro a w h
     refine wl rfl (op_appendbs h rfl rfl K.u_S_uint8 K.sz_uint8 K.z_uint8 rfl rfl 0 rfl (Src.bytes K.u_S_uint8 (by exact ViewsB.of_drop 2 (by assumption)) h.2) (by (simp only [List.length_cons, List.length_nil]; omega)) rfl ?_)
     clear h a w; intro v79 a w h
     (simp only [List.set_cons_zero, List.set_cons_succ] at h)
     obtain ⟨QD, hD⟩ : ∃ QD, QD = ([80, 49] : List UInt8) ++ p := ⟨_, rfl⟩
     have hDl : QD.length ≤ 102 := by rw [hD, List.length_append]; simp only [List.length_cons, List.length_nil]; omega
     rw [← hD] at h
     refine wl rfl (op_buildO h K.u_S_S_uint8 K.sz_S_uint8 K.z_S_uint8 rfl rfl rfl rfl (by simp only [List.mem_cons, List.not_mem_nil, or_false, forall_eq_or_imp, forall_eq]; (repeat' apply And.intro) <;> first | assumption | exact Views.oneCell (Views.own 0 rfl) h.2 | exact Views.oneCell (Views.own 1 rfl) h.2) rfl ?_)
     clear h a w; intro b80 a w h
     replace h := h.toOwnL (enc := id) [v0, v62, v79] (NF.zero _) rfl rfl rfl
     refine wv h (r_lenV h rfl K.u_S_S_uint8 (by exact Views.own 0 rfl)) rfl ?_
     clear h a w; intro a w h
     refine wv h (r_move h rfl) rfl ?_
     clear h a w; intro a w h
     refine wnil (c_then ?_)
     refine c_block ?_
     obtain ⟨v80, hv80⟩ : ∃ v : Value, v = .slice (some ⟨b80, 0, none⟩) 3 3 := ⟨_, rfl⟩
     rw [show ([v0, v62, v79] : List Value).length = 3 from rfl, ← hv80] at h
     obtain ⟨G, hG⟩ : ∃ G : List HItem, G = OwnB v79 QD :: OwnB v62 QB :: F := ⟨_, rfl⟩
     have hvw : ∀ (i : Nat) (u : Value), ([v0, v62, v79] : List Value)[i]? = some u → ∃ tx, ViewsB G u tx ∧ tx.length ≤ 6000 := by
       intro i u hu
       rw [hG]
       rcases i with _ | _ | _ | i
       · simp at hu; subst hu; exact ⟨p, (hv0.cons _).cons _, by omega⟩
       · simp at hu; subst hu; exact ⟨QB, ViewsB.own 1 rfl, by omega⟩
       · simp at hu; subst hu; exact ⟨QD, ViewsB.own 0 rfl, by omega⟩
       · simp at hu
     have hTG : HasParts G := by rw [hG]; exact (hT.cons _).cons _
     have hFG : HasFirst G := by rw [hG]; exact (hF.cons _).cons _
     have hCG : HasLines G := by rw [hG]; exact (hC.cons _).cons _
     have hGF : ∀ w', Sat s w' G → Sat s w' F := fun w' q => by rw [hG] at q; exact q.drop 2
     rw [← hG] at h
     clear hG
     refine c_loop (X := Nat) (fun i => [(4, .bool seal_), (80, v80), (81, .int .i64 3), (82, .int .i64 (i : Int))]) (fun i => OwnL id v80 [v0, v62, v79] :: G) (fun i => i ≤ 3) (fun i => 3 - i) 0 (h.keep [4, 80, 81, 82]) (Nat.zero_le _) ?_
     clear h a w; intro i a w hi h
     as_aux_lemma =>
      refine c_seq (c_region ?_)
      refine wv h (r_bin h rfl rfl (B.lss_int)) rfl ?_
      clear h a w; intro a w h
      refine wnil (c_then ?_)
      refine c_seq ?_
      refine c_condP (p := i < 3) h rfl (by simp; omega) (fun ht4 => ?_) (fun ht4 => ?_)
      ·
       obtain ⟨u, hu⟩ : ∃ u, ([v0, v62, v79] : List Value)[i]? = some u := ⟨([v0, v62, v79] : List Value)[i]'(by simp; omega), by simp⟩
       obtain ⟨tx, hvt, htl⟩ := hvw i u hu
       have hvt1 := hvt.cons (OwnL id v80 [v0, v62, v79])
       refine c_skip ?_
       refine c_then ?_
       refine c_seq ?_
       refine c_block ?_
       refine c_seq (c_region ?_)
       refine wv h (r_elP h rfl rfl K.u_S_S_uint8 K.sz_S_uint8 (by exact Views.own 0 rfl) (by omega) (by omega)) rfl ?_
       clear h a w; intro a w h
       refine wv h (r_elG h rfl K.u_S_uint8 rfl (Views.own 0 rfl) (u := u) (by simpa using hu)) rfl ?_
       clear h a w; intro a w h
       refine wv h (r_assign h rfl) rfl ?_
       clear h a w; intro a w h
       refine wnil (c_then ?_)
       refine c_seq (c_region ?_)
       refine wv h (r_move h rfl) rfl ?_
       clear h a w; intro a w h
       refine wv h (r_assign h rfl) rfl ?_
       clear h a w; intro a w h
       refine wnil (c_then ?_)
       refine c_meet h (X := Value × List UInt8 × List HItem) (fun z => [(4, .bool seal_), (16, z.1), (80, v80), (81, .int .i64 3), (82, .int .i64 (i : Int))]) (fun z => z.2.2)
         (fun z => ViewsB z.2.2 z.1 z.2.1 ∧ z.2.1.length ≤ 6010 ∧ (seal_ = true → sumOk z.2.1 ∧ 4 ≤ z.2.1.length) ∧ HasParts z.2.2 ∧ HasFirst z.2.2 ∧ HasLines z.2.2 ∧ ∀ w', Sat s w' z.2.2 → Sat s w' (OwnL id v80 [v0, v62, v79] :: G)) ?_ ?_
       ·
        refine c_seq (c_region ?_)
        refine wv h (r_move h rfl) rfl ?_
        clear h a w; intro a w h
        refine wnil (c_then ?_)
        refine c_condP (p := seal_ = true) h rfl Iff.rfl (fun ht5 => ?_) (fun ht5 => ?_)
        ·
         as_aux_lemma =>
          refine c_region ?_
          refine wv h (r_move h rfl) rfl ?_
          clear h a w; intro a w h
          refine wl rfl (op_appendnbs h rfl rfl K.u_S_uint8 K.sz_uint8 K.z_uint8 rfl rfl (Src.bytes K.u_S_uint8 (by assumption) h.2) (by omega) rfl ?_)
          clear h a w; intro v89 a w h
          refine wv h (r_move h rfl) rfl ?_
          clear h a w; intro a w h
          refine wl rfl (op_call h rfl K.go_ref01_Sum (ref_sum s _ u tx _ (by omega) (hvt1.cons _) h.2) rfl ?_)
          clear h a w; intro z91 a w hz91 h
          refine wl rfl (op_call h rfl K.go_ref01_Four (ref_four s _ (crcN tx) _ h.2) rfl ?_)
          clear h a w; intro v92 a w hz92 h
          have hf4 : (fourN (crcN tx)).length = 4 := rfl
          refine wl rfl (op_appendbs h rfl rfl K.u_S_uint8 K.sz_uint8 K.z_uint8 rfl rfl 1 rfl (Src.bytes K.u_S_uint8 (by exact ViewsB.own 0 rfl) h.2) (by omega) rfl ?_)
          clear h a w; intro v93 a w h
          (simp only [List.set_cons_zero, List.set_cons_succ] at h)
          refine wv h (r_assign h rfl) rfl ?_
          clear h a w; intro a w h
          refine wnil ?_
          obtain ⟨q1, q2, q3⟩ := seal_back tx
          rw [show tx ++ fourN (crcN tx) = sealP tx from rfl] at h
          exact ⟨(v93, sealP tx, _), h.keep [4, 16, 80, 81, 82], ViewsB.own 1 rfl, by simp only; omega, fun _ => ⟨q3, by simp only; omega⟩, ((hTG.cons _).cons _).cons _, ((hFG.cons _).cons _).cons _, ((hCG.cons _).cons _).cons _, fun w' q => q.drop 2⟩
        ·
         refine c_skip ?_
         exact ⟨(u, tx, _), h.keep [4, 16, 80, 81, 82], hvt1, by simp only; omega, fun q => absurd q ht5, hTG.cons _, hFG.cons _, hCG.cons _, fun w' q => q⟩
       ·
        clear h a w; intro z a w hz h
        obtain ⟨bw, tb, G2⟩ := z
        obtain ⟨y1, y2, y3, y4, y5, y6, y7⟩ := hz
        simp only at y1 y2 y3 y4 y5 y6 y7 h
        refine c_seq (c_region ?_)
        refine wv h (r_move h rfl) rfl ?_
        clear h a w; intro a w h
        refine wl rfl (op_call h rfl K.go_pack_Decode (pack_Decode s _ bw tb _ y4 y5 y6 y1 (by omega) h.2) rfl ?_)
        clear h a w; intro z96 a w hde h
        obtain ⟨v17, e18, zs⟩ := z96
        simp only at hde h
        refine wv h (r_move h rfl) rfl ?_
        clear h a w; intro a w h
        refine wv h (r_extractN h rfl rfl) rfl ?_
        clear h a w; intro a w h
        refine wv h (r_extractN h rfl rfl) rfl ?_
        clear h a w; intro a w h
        refine wv h (r_assign h rfl) rfl ?_
        clear h a w; intro a w h
        refine wv h (r_assign h rfl) rfl ?_
        clear h a w; intro a w h
        refine wnil (c_then ?_)
        refine c_seq ?_
        refine c_seq (c_region ?_)
        refine wv h (r_move h rfl) rfl ?_
        clear h a w; intro a w h
        refine wv h (r_bin h rfl rfl (B.neq_int)) rfl ?_
        clear h a w; intro a w h
        refine wnil (c_then ?_)
        refine c_condP (p := e18 ≠ 0) h rfl (by simp) (fun ht6 => ?_) (fun ht6 => ?_)
        ·
         obtain ⟨k1, rfl⟩ : (e18 = 7 ∨ e18 = 8) ∧ zs = [] := by
           rcases hde.kind with q | q
           · exact q
           · exact absurd q.1 ht6
         have k2 : seal_ = true → e18 = 7 := fun q => by
           obtain ⟨g1, g2⟩ := y3 q
           rcases k1 with k1 | k1
           · exact k1
           · exact absurd g1 ((hde.sum g2).1 k1)
         as_aux_lemma =>
          refine c_seq ?_
          refine c_seq (c_region ?_)
          refine wv h (r_move h rfl) rfl ?_
          clear h a w; intro a w h
          refine wv h (r_lenV h rfl K.u_S_S_uint8 (by exact Views.own 0 rfl)) rfl ?_
          clear h a w; intro a w h
          refine wv h (r_bin h rfl rfl (B.neq_int)) rfl ?_
          clear h a w; intro a w h
          refine wv h (r_move h rfl) rfl ?_
          clear h a w; intro a w h
          refine wvG h (by exact .f rfl) (fun hg => by (have hg2 := hg; (simp only [Bool.and_eq_true, Bool.or_eq_true, Bool.not_eq_true', decide_eq_true_eq, decide_eq_false_iff_not] at hg2)); exact r_move h rfl) rfl ?_
          clear h a w; intro a w h
          refine wvG h (by exact .f rfl) (fun hg => by (simp only [↓gval_on hg, ↓gval_and hg] at h); (have hg2 := hg; (simp only [Bool.and_eq_true, Bool.or_eq_true, Bool.not_eq_true', decide_eq_true_eq, decide_eq_false_iff_not] at hg2)); exact r_bin h rfl rfl (B.neq_int)) rfl ?_
          clear h a w; intro a w h
          refine wvG h (by exact .f rfl) (fun hg => by (simp only [↓gval_on hg, ↓gval_and hg] at h); (have hg2 := hg; (simp only [Bool.and_eq_true, Bool.or_eq_true, Bool.not_eq_true', decide_eq_true_eq, decide_eq_false_iff_not] at hg2)); exact r_move h rfl) rfl ?_
          clear h a w; intro a w h
          refine wvG h (by exact .t rfl) (fun hg => by (have hg2 := hg; (simp only [Bool.and_eq_true, Bool.or_eq_true, Bool.not_eq_true', decide_eq_true_eq, decide_eq_false_iff_not] at hg2)); exact r_move h rfl) rfl ?_
          clear h a w; intro a w h
          refine wvG h (by exact .t rfl) (fun hg => by (simp only [↓gval_on hg, ↓gval_and hg] at h); (have hg2 := hg; (simp only [Bool.and_eq_true, Bool.or_eq_true, Bool.not_eq_true', decide_eq_true_eq, decide_eq_false_iff_not] at hg2)); exact r_bin h rfl rfl (B.neq_int)) rfl ?_
          clear h a w; intro a w h
          refine wvG h (by exact .f rfl) (fun hg => by (simp only [↓gval_on hg, ↓gval_and hg] at h); (have hg2 := hg; (simp only [Bool.and_eq_true, Bool.or_eq_true, Bool.not_eq_true', decide_eq_true_eq, decide_eq_false_iff_not] at hg2)); exact r_pickA h rfl rfl rfl) rfl ?_
          clear h a w; intro a w h
          refine wv h (r_pickO h rfl rfl rfl) rfl ?_
          clear h a w; intro a w h
          refine wv h (r_move h rfl) rfl ?_
          clear h a w; intro a w h
          refine wvG h (by exact .f rfl) (fun hg => by (have hg2 := hg; (simp only [Bool.and_eq_true, Bool.or_eq_true, Bool.not_eq_true', decide_eq_true_eq, decide_eq_false_iff_not] at hg2)); exact r_move h rfl) rfl ?_
          clear h a w; intro a w h
          refine wvG h (by exact .f rfl) (fun hg => by (simp only [↓gval_on hg, ↓gval_and hg] at h); (have hg2 := hg; (simp only [Bool.and_eq_true, Bool.or_eq_true, Bool.not_eq_true', decide_eq_true_eq, decide_eq_false_iff_not] at hg2)); exact r_move h rfl) rfl ?_
          clear h a w; intro a w h
          refine wvG h (by exact .gt rfl) (fun hg => by (have hg2 := hg; (simp only [Bool.and_eq_true, Bool.or_eq_true, Bool.not_eq_true', decide_eq_true_eq, decide_eq_false_iff_not] at hg2)); exact r_move h rfl) rfl ?_
          clear h a w; intro a w h
          refine wvG h (by exact .gt rfl) (fun hg => by (simp only [↓gval_on hg, ↓gval_and hg] at h); (have hg2 := hg; (simp only [Bool.and_eq_true, Bool.or_eq_true, Bool.not_eq_true', decide_eq_true_eq, decide_eq_false_iff_not] at hg2)); exact r_bin h rfl rfl (B.neq_int)) rfl ?_
          clear h a w; intro a w h
          refine wvG h (by exact .f rfl) (fun hg => by (simp only [↓gval_on hg, ↓gval_and hg] at h); (have hg2 := hg; (simp only [Bool.and_eq_true, Bool.or_eq_true, Bool.not_eq_true', decide_eq_true_eq, decide_eq_false_iff_not] at hg2)); exact r_pickA h rfl rfl rfl) rfl ?_
          clear h a w; intro a w h
          refine wv h (r_pickO h rfl rfl rfl) rfl ?_
          clear h a w; intro a w h
          refine wnil (c_then ?_)
          refine c_condP (p := False) h rfl (by rcases k1 with k1 | k1 <;> cases seal_ <;> simp_all) (fun ht7 => ?_) (fun ht7 => ?_)
          ·
           exact ht7.elim
          ·
           refine c_skip ?_
           refine c_then ?_
           refine c_exit ?_
           refine e_then ?_
           refine e_here ?_
           refine c_then ?_
           refine c_region ?_
           refine wv h (r_bin h rfl rfl (B.add_i64 (by omega) (by omega))) rfl ?_
           clear h a w; intro a w h
           refine wv h (r_move h rfl) rfl ?_
           clear h a w; intro a w h
           refine wnil ?_
           exact ⟨i + 1, ⟨(h.keep [4, 80, 81, 82]).1, y7 _ (h.2.drop 2)⟩, by omega, by omega⟩
        ·
         obtain ⟨rfl, hen⟩ : e18 = 0 ∧ encP (bytesI (srtd zs)) = some tb := by
           rcases hde.kind with q | q
           · omega
           · exact q
         have hb := hde.bnd
         refine c_skip ?_
         refine c_then ?_
         refine c_seq (c_region ?_)
         refine wv h (r_move h rfl) rfl ?_
         clear h a w; intro a w h
         refine wl rfl (op_call h rfl K.go_pack_Encode (pack_Encode s _ v17 zs _ ((y4.cons _).cons _) ((y5.cons _).cons _) ((y6.cons _).cons _) (Views.own 0 rfl) (fun x hx => ⟨BytI.view 1 rfl x hx, by have := hb.2 x hx; omega⟩) (by omega) h.2) rfl ?_)
         clear h a w; intro v121 a w hz121 h
         rw [hen] at h
         simp only [Option.isSome_some, Option.getD_some, if_true] at h
         refine wv h (r_move h rfl) rfl ?_
         clear h a w; intro a w h
         refine wv h (r_extractN h rfl rfl) rfl ?_
         clear h a w; intro a w h
         refine wv h (r_extractN h rfl rfl) rfl ?_
         clear h a w; intro a w h
         refine wv h (r_assign h rfl) rfl ?_
         clear h a w; intro a w h
         refine wv h (r_assign h rfl) rfl ?_
         clear h a w; intro a w h
         refine wnil (c_then ?_)
         refine c_seq (c_region ?_)
         refine wv h (r_move h rfl) rfl ?_
         clear h a w; intro a w h
         refine wv h (r_bin h rfl rfl (B.neq_int)) rfl ?_
         clear h a w; intro a w h
         refine wv h (r_move h rfl) rfl ?_
         clear h a w; intro a w h
         refine wvG h (by exact .f rfl) (fun hg => by (have hg2 := hg; (simp only [Bool.and_eq_true, Bool.or_eq_true, Bool.not_eq_true', decide_eq_true_eq, decide_eq_false_iff_not] at hg2)); exact r_move h rfl) rfl ?_
         clear h a w; intro a w h
         refine wvG h (by exact .f rfl) (fun hg => by (simp only [↓gval_on hg, ↓gval_and hg] at h); (have hg2 := hg; (simp only [Bool.and_eq_true, Bool.or_eq_true, Bool.not_eq_true', decide_eq_true_eq, decide_eq_false_iff_not] at hg2)); exact r_b2sb h rfl K.u_S_uint8 K.u_uint8 K.u_string (by exact ViewsB.own 0 rfl)) rfl ?_
         clear h a w; intro a w h
         refine wvG h (by exact .f rfl) (fun hg => by (simp only [↓gval_on hg, ↓gval_and hg] at h); (have hg2 := hg; (simp only [Bool.and_eq_true, Bool.or_eq_true, Bool.not_eq_true', decide_eq_true_eq, decide_eq_false_iff_not] at hg2)); exact r_move h rfl) rfl ?_
         clear h a w; intro a w h
         refine wvG h (by exact .f rfl) (fun hg => by (simp only [↓gval_on hg, ↓gval_and hg] at h); (have hg2 := hg; (simp only [Bool.and_eq_true, Bool.or_eq_true, Bool.not_eq_true', decide_eq_true_eq, decide_eq_false_iff_not] at hg2)); exact r_b2sb h rfl K.u_S_uint8 K.u_uint8 K.u_string (by exact ViewsB.of_drop 3 (by assumption))) rfl ?_
         clear h a w; intro a w h
         refine wvG h (by exact .f rfl) (fun hg => by (simp only [↓gval_on hg, ↓gval_and hg] at h); (have hg2 := hg; (simp only [Bool.and_eq_true, Bool.or_eq_true, Bool.not_eq_true', decide_eq_true_eq, decide_eq_false_iff_not] at hg2)); exact r_strne h rfl rfl) rfl ?_
         clear h a w; intro a w h
         refine wv h (r_pickO h rfl rfl rfl) rfl ?_
         clear h a w; intro a w h
         refine wnil (c_then ?_)
         refine c_condP (p := False) h rfl (by simp) (fun ht8 => ?_) (fun ht8 => ?_)
         ·
          exact ht8.elim
         ·
          refine c_skip ?_
          refine b_normal ?_
          refine c_then ?_
          refine c_region ?_
          refine wv h (r_bin h rfl rfl (B.add_i64 (by omega) (by omega))) rfl ?_
          clear h a w; intro a w h
          refine wv h (r_move h rfl) rfl ?_
          clear h a w; intro a w h
          refine wnil ?_
          exact ⟨i + 1, ⟨(h.keep [4, 80, 81, 82]).1, y7 _ (h.2.drop 3)⟩, by omega, by omega⟩
      ·
       refine c_exit ?_
       refine e_then ?_
       refine e_then ?_
       refine e_here ?_
       refine c_then ?_
       refine c_seq (c_region ?_)
       refine wv h (r_assign h rfl) rfl ?_
       clear h a w; intro a w h
       refine wnil (c_then ?_)
       refine c_ret ?_
       exact ret1 h rfl rfl ⟨(), rfl, hGF _ (h.2.drop 1), trivial⟩
end Go.Proofs.K

