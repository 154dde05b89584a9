/- Stable sorting of items: what the library's functions do, from the least on. -/
import Derived.Test.YtfhlbfalgdipiaaDoorTab
import Derived.Test.YtfhlbfalgdipiaaDoorOrder
set_option linter.unusedVariables false
set_option linter.unusedSimpArgs false
set_option maxRecDepth 10000
set_option maxHeartbeats 2000000
namespace Go.Sl
def cellsI (i : ItV) : List Value := bs i.k.val ++ [i.x.v]
instance : Row cellsI 33 := ⟨fun i => by simp [cellsI, bs_length, i.k.len], fun i u hu => by
  simp only [cellsI, List.mem_append, List.mem_singleton] at hu
  rcases hu with hu | hu
  · exact bs_one _ u hu
  · subst hu; rfl⟩
def Shp (v : Value) (N : Nat) : Prop := ∃ b o cap, v = .slice (some ⟨b, o, none⟩) N cap
theorem r_elPs {P : Program} {n : Nat} {s w : World} {a : Act} {E : List (Nat × Value)} {L : List HItem} {dst : Option Nat} {ty : TypeId} {pos : String} {aft : Array Edge} {g : Option (Nat × Bool)}
    (h : St n s a w E L) {t el : TypeId} {x ix : Operand} {v : Value} {N size by_ : Nat} {k1 : IntKind} {c : Int} (hx : ev E x = some v) (hi : ev E ix = some (.int k1 c)) (hu : P.underlying t = some (.slice el)) (hs : tsz P el = some (size, by_))
    (hv : Shp v N) (j : Nat) (hj : c = (j : Int)) (hlt : j < N) : (execOp a.eval ⟨dst, .indexAddr t x ix, ty, pos, aft, g⟩).run P w = .ok (.value (elP v (j * size))) w := by
  obtain ⟨b, o, cap, rfl⟩ := hv
  exact r_idx h hx hi hu hs rfl j hj hlt
theorem q_callV {P : Program} {n : Nat} {s : World} {a : Act} {E : List (Nat × Value)} {L : List HItem} {d : Nat} {ty : TypeId} {pos : String} {aft : Array Edge} {ops : Array Oper} {rest : List Oper} {v : Value} {QQ : Act → Prop}
    (hE : Env n a E) {y : Operand} {f : FuncId} {fs cs : Array Value} {xs : List Operand} {ats : Array TypeId} {vs : List Value} (hy : ev E y = some (.func (.func f) fs cs)) (hx : evs E xs = some vs) (hf : isGo P f = true)
    (hc : ∀ w, Sat s w L → Calls P f (fs ++ vs.toArray ++ cs) w (Ret s (fun _ : Unit => v) (fun _ => L) (fun _ => True))) (hd : Nat.blt d n = true)
    (k : ∀ a, Env n a ((d, v) :: E) → wpQuiet P ops (fun w => Sat s w L) QQ rest a) : wpQuiet P ops (fun w => Sat s w L) QQ (Oper.mk (some d) (.call { callee := .value y, args := xs.toArray, argTypes := ats }) ty pos aft none :: rest) a := by
  unfold wpQuiet
  rw [if_pos (by simp [Region.wanted])]
  refine ⟨v, fun w hw => ?_, k _ (hE.put hd v)⟩
  have he : (execOp a.eval (Oper.mk (some d) (.call { callee := .value y, args := xs.toArray, argTypes := ats }) ty pos aft none)).run P w = .ok (.enter f (fs ++ vs.toArray ++ cs)) w := by
    have : execOp a.eval (Oper.mk (some d) (.call { callee := .value y, args := xs.toArray, argTypes := ats }) ty pos aft none) = (do let q ← Deferred.ofValue (a.eval y) (xs.toArray.map a.eval); invoke q.target q.args) := rfl
    rw [this, hE.ev hy]
    show (callFunc f (fs ++ xs.toArray.map a.eval ++ cs)).run P w = _
    rw [run_callFunc_go hf]
    simp [hE.evs hx]
  unfold Oper.quietAt
  rw [he]
  exact ⟨rfl, (hc w hw).mono fun e w' ⟨_, he, hs, _⟩ => ⟨he, hs⟩⟩
theorem q_callVG {P : Program} {n : Nat} {s : World} {a : Act} {E : List (Nat × Value)} {L : List HItem} {d : Nat} {ty : TypeId} {pos : String} {aft : Array Edge} {ops : Array Oper} {rest : List Oper} {v : Value} {QQ : Act → Prop}
    (hE : Env n a E) {j : Nat} {b gg : Bool} (hg : Wants ops E j b gg) {y : Operand} {f : FuncId} {fs cs : Array Value} {xs : List Operand} {ats : Array TypeId} (hf : isGo P f = true)
    (hc : gg = true → ∃ E' vs, Env n a E' ∧ ev E' y = some (.func (.func f) fs cs) ∧ evs E' xs = some vs ∧ ∀ w, Sat s w L → Calls P f (fs ++ vs.toArray ++ cs) w (Ret s (fun _ : Unit => v) (fun _ => L) (fun _ => True))) (hd : Nat.blt d n = true)
    (k : ∀ a, Env n a ((d, gval gg v) :: E) → wpQuiet P ops (fun w => Sat s w L) QQ rest a) : wpQuiet P ops (fun w => Sat s w L) QQ (Oper.mk (some d) (.call { callee := .value y, args := xs.toArray, argTypes := ats }) ty pos aft (some (j, b)) :: rest) a := by
  have hw := hg.wanted hE
  cases gg with
  | true =>
    obtain ⟨E', vs, hE', hy, hx, hc⟩ := hc rfl
    unfold wpQuiet
    rw [if_pos (by simp [Region.wanted, hw])]
    refine ⟨v, fun w hw => ?_, k _ (hE.put hd v)⟩
    have he : (execOp a.eval (Oper.mk (some d) (.call { callee := .value y, args := xs.toArray, argTypes := ats }) ty pos aft (some (j, b)))).run P w = .ok (.enter f (fs ++ vs.toArray ++ cs)) w := by
      have : execOp a.eval (Oper.mk (some d) (.call { callee := .value y, args := xs.toArray, argTypes := ats }) ty pos aft (some (j, b))) = (do let q ← Deferred.ofValue (a.eval y) (xs.toArray.map a.eval); invoke q.target q.args) := rfl
      rw [this, hE'.ev hy]
      show (callFunc f (fs ++ xs.toArray.map a.eval ++ cs)).run P w = _
      rw [run_callFunc_go hf]
      simp [hE'.evs hx]
    unfold Oper.quietAt
    rw [he]
    exact ⟨rfl, (hc w hw).mono fun e w' ⟨_, he, hs, _⟩ => ⟨he, hs⟩⟩
  | false =>
    unfold wpQuiet
    rw [if_neg (by simp [Region.wanted, hw])]
    exact k _ (hE.put hd _)
theorem Sat.shp {s w : World} {L : List HItem} {v : Value} {l : List ItV} (h : Sat s w (OwnM 33 cellsI v l :: L)) (hl : 0 < l.length) : Shp v l.length := by
  obtain ⟨b, o, cap, e, _⟩ := ((Views.own 0 rfl : Views (OwnM 33 cellsI v l :: L) 33 v l.length (l.flatMap cellsI)) _ h.2.2.2).elP hl
  exact ⟨b, o, cap, e⟩
end Go.Sl
namespace Go.Proofs.K
open Go.Sl
attribute [local irreducible] Go.Sl.Own Go.Sl.Blk Go.Sl.Sep Go.Sl.Ex Go.Sl.Fact
theorem sl_isNaN (s w : World) (x : UInt8) (F : List HItem) (hs : Sat s w F) : Calls P n_cmp_isNaN_byte #[bv x] w (Ret s (fun _ : Unit => .bool false) (fun _ => F) (fun _ => True)) := by
  refine enter K.fn_cmp_isNaN_byte rfl K.nt_cmp_isNaN_byte rfl hs ?_
  clear hs w; intro a w h
  refine c_seq (c_region ?_)
  refine wv h (r_assign h rfl) rfl ?_
  clear h a w; intro a w h
  refine wnil (c_then ?_)
  refine c_seq (c_region ?_)
  refine wv h (r_move h rfl) rfl ?_
  clear h a w; intro a w h
  refine wv h (r_move h rfl) rfl ?_
  clear h a w; intro a w h
  refine wv h (r_bin h rfl rfl (B.neq_u8)) rfl ?_
  clear h a w; intro a w h
  refine wv h (r_assign h rfl) rfl ?_
  clear h a w; intro a w h
  refine wnil (c_then ?_)
  refine c_ret ?_
  exact ret1 h rfl rfl ⟨(), by simp, h.2, trivial⟩
/-- three answers -/
def cmp8 (x y : UInt8) : Int := if x < y then -1 else if y < x then 1 else 0
theorem sl_cmp (s w : World) (x y : UInt8) (F : List HItem) (hs : Sat s w F) : Calls P n_cmp_Compare_byte #[bv x, bv y] w (Ret s (fun _ : Unit => .int .i64 (cmp8 x y)) (fun _ => F) (fun _ => True)) := by
  refine enter K.fn_cmp_Compare_byte rfl K.nt_cmp_Compare_byte rfl hs ?_
  clear hs w; intro a w h
  refine c_seq (c_region ?_)
  refine wv h (r_assign h rfl) rfl ?_
  clear h a w; intro a w h
  refine wnil (c_then ?_)
  refine c_seq (c_region ?_)
  refine wv h (r_move h rfl) rfl ?_
  clear h a w; intro a w h
  refine wl rfl (op_call h rfl K.go_cmp_isNaN_byte (sl_isNaN s _ _ _ h.2) rfl ?_)
  clear h a w; intro z8 a w hz8 h
  (try simp only [List.set_cons_zero, List.set_cons_succ] at h)
  refine wv h (r_assign h rfl) rfl ?_
  clear h a w; intro a w h
  refine wnil (c_then ?_)
  refine c_seq (c_region ?_)
  refine wv h (r_move h rfl) rfl ?_
  clear h a w; intro a w h
  refine wl rfl (op_call h rfl K.go_cmp_isNaN_byte (sl_isNaN s _ _ _ h.2) rfl ?_)
  clear h a w; intro z10 a w hz10 h
  (try simp only [List.set_cons_zero, List.set_cons_succ] at h)
  refine wv h (r_assign h rfl) rfl ?_
  clear h a w; intro a w h
  refine wnil (c_then ?_)
  refine c_seq ?_
  refine c_seq (c_region ?_)
  refine wv h (r_move h rfl) rfl ?_
  clear h a w; intro a w h
  refine wnil (c_then ?_)
  refine c_condP (p := False) h rfl (by simp) (fun q => q.elim) (fun _ => ?_)
  refine c_skip ?_
  refine c_then ?_
  refine c_seq ?_
  refine c_seq (c_region ?_)
  refine wv h (r_move h rfl) rfl ?_
  clear h a w; intro a w h
  refine wnil (c_then ?_)
  refine c_condP (p := False) h rfl (by simp) (fun q => q.elim) (fun _ => ?_)
  refine c_skip ?_
  refine c_then ?_
  refine c_seq ?_
  refine c_seq (c_region ?_)
  refine wv h (r_move h rfl) rfl ?_
  clear h a w; intro a w h
  refine wv h (r_move h rfl) rfl ?_
  clear h a w; intro a w h
  refine wv h (r_bin h rfl rfl (B.lss_u8)) rfl ?_
  clear h a w; intro a w h
  refine wnil (c_then ?_)
  refine c_condP (p := x < y) h rfl (by simp) (fun ht3 => ?_) (fun ht3 => ?_)
  ·
   as_aux_lemma =>
    refine c_seq (c_region ?_)
    refine wv h (r_assign h rfl) rfl ?_
    clear h a w; intro a w h
    refine wnil (c_then ?_)
    refine c_ret ?_
    exact ret1 h rfl rfl ⟨(), by rw [cmp8, if_pos ht3], h.2, trivial⟩
  ·
   refine c_skip ?_
   refine c_then ?_
   refine c_seq ?_
   refine c_seq (c_region ?_)
   refine wv h (r_move h rfl) rfl ?_
   clear h a w; intro a w h
   refine wv h (r_move h rfl) rfl ?_
   clear h a w; intro a w h
   refine wv h (r_bin h rfl rfl (B.gtr_u8)) rfl ?_
   clear h a w; intro a w h
   refine wnil (c_then ?_)
   refine c_condP (p := y < x) h rfl (by simp) (fun ht4 => ?_) (fun ht4 => ?_)
   ·
    as_aux_lemma =>
     refine c_seq (c_region ?_)
     refine wv h (r_assign h rfl) rfl ?_
     clear h a w; intro a w h
     refine wnil (c_then ?_)
     refine c_ret ?_
     exact ret1 h rfl rfl ⟨(), by rw [cmp8, if_neg ht3, if_pos ht4], h.2, trivial⟩
   ·
    refine c_skip ?_
    refine c_then ?_
    refine c_seq (c_region ?_)
    refine wv h (r_assign h rfl) rfl ?_
    clear h a w; intro a w h
    refine wnil (c_then ?_)
    refine c_ret ?_
    exact ret1 h rfl rfl ⟨(), by rw [cmp8, if_neg ht3, if_neg ht4], h.2, trivial⟩
def cmpL : List UInt8 → List UInt8 → Int
  | [], [] => 0
  | [], _ :: _ => -1
  | _ :: _, [] => 1
  | x :: l, y :: m => if cmp8 x y ≠ 0 then cmp8 x y else cmpL l m
theorem cmp8_lt (x y : UInt8) : (cmp8 x y < 0 ↔ x < y) ∧ (cmp8 x y = 0 ↔ x = y) := by
  by_cases h1 : x < y
  · rw [cmp8, if_pos h1]
    refine ⟨by simp [h1], ⟨fun h => by omega, fun h => ?_⟩⟩
    subst h; rw [UInt8.lt_iff_toNat_lt] at h1; omega
  · rw [cmp8, if_neg h1]
    by_cases h2 : y < x
    · rw [if_pos h2]
      refine ⟨by simp [h1], ⟨fun h => by omega, fun h => ?_⟩⟩
      subst h; exact absurd h2 h1
    · rw [if_neg h2]
      refine ⟨by simp [h1], ⟨fun _ => ?_, fun _ => rfl⟩⟩
      rw [UInt8.lt_iff_toNat_lt] at h1 h2
      exact UInt8.toNat_inj.1 (by omega)
theorem cmpL_lt : ∀ (l m : List UInt8), cmpL l m < 0 ↔ Op.bytesLess l m = true
  | [], [] => by simp [cmpL, Op.bytesLess]
  | [], _ :: _ => by simp [cmpL, Op.bytesLess]
  | _ :: _, [] => by simp [cmpL, Op.bytesLess]
  | x :: l, y :: m => by
    obtain ⟨h1, h2⟩ := cmp8_lt x y
    rw [cmpL, bytesLess_cons']
    by_cases e : x = y
    · rw [if_neg (by rw [Ne, h2]; simp [e]), if_pos e]; exact cmpL_lt l m
    · rw [if_pos (by rw [Ne, h2]; exact e), if_neg e, decide_eq_true_iff]; exact h1
theorem sl_Compare (s w : World) (v u : Value) (l m : List UInt8) (F : List HItem) (hv : ViewsB F v l) (hu : ViewsB F u m) (hl : l.length ≤ 4294967296) (hm : m.length ≤ 4294967296) (hs : Sat s w F) :
    Calls P n_slices_Compare_byte_byte #[v, u] w (Ret s (fun _ : Unit => .int .i64 (cmpL l m)) (fun _ => F) (fun _ => True)) := by
  refine enter K.fn_slices_Compare_byte_byte rfl K.nt_slices_Compare_byte_byte rfl hs ?_
  clear hs w; intro a w h
  refine c_seq (c_region ?_)
  refine wv h (r_assign h rfl) rfl ?_
  clear h a w; intro a w h
  refine wnil (c_then ?_)
  refine c_seq ?_
  refine c_seq (c_region ?_)
  refine wv h (r_move h rfl) rfl ?_
  clear h a w; intro a w h
  refine wv h (r_lenB h rfl K.u_S_uint8 (by first | exact ViewsB.own 0 rfl | exact ViewsB.own 1 rfl | exact ViewsB.own 2 rfl | exact ViewsB.own 3 rfl | exact ViewsB.own 4 rfl | exact ViewsB.own 5 rfl | assumption | exact ViewsB.nil _ | exact ViewsB.arr 0 rfl (by first | assumption | rfl | (simp; done)) (Nat.le_refl _) (by simp [maxLen]) | exact ViewsB.arr 1 rfl (by first | assumption | rfl | (simp; done)) (Nat.le_refl _) (by simp [maxLen]) | exact ViewsB.arr 2 rfl (by first | assumption | rfl | (simp; done)) (Nat.le_refl _) (by simp [maxLen]) | exact ViewsB.arr 3 rfl (by first | assumption | rfl | (simp; done)) (Nat.le_refl _) (by simp [maxLen]) | exact ViewsB.arr 4 rfl (by first | assumption | rfl | (simp; done)) (Nat.le_refl _) (by simp [maxLen]) | exact ViewsB.of_drop 1 (by assumption) | exact ViewsB.of_drop 2 (by assumption) | exact ViewsB.of_drop 3 (by assumption) | exact ViewsB.of_drop 4 (by assumption) | exact ViewsB.of_drop 5 (by assumption) | exact ViewsB.of_drop 6 (by assumption) | exact ViewsB.of_drop 7 (by assumption) | exact ViewsB.of_drop 8 (by assumption) | exact ViewsB.of_drop 9 (by assumption) | exact ViewsB.of_drop 10 (by assumption) | exact ViewsB.of_drop 11 (by assumption) | exact ViewsB.of_drop 12 (by assumption) | exact ViewsB.sub (by first | exact ViewsB.own 0 rfl | exact ViewsB.own 1 rfl | exact ViewsB.own 2 rfl | exact ViewsB.own 3 rfl | exact ViewsB.own 4 rfl | exact ViewsB.own 5 rfl | assumption | exact ViewsB.nil _ | exact ViewsB.arr 0 rfl (by first | assumption | rfl | (simp; done)) (Nat.le_refl _) (by simp [maxLen]) | exact ViewsB.arr 1 rfl (by first | assumption | rfl | (simp; done)) (Nat.le_refl _) (by simp [maxLen]) | exact ViewsB.arr 2 rfl (by first | assumption | rfl | (simp; done)) (Nat.le_refl _) (by simp [maxLen]) | exact ViewsB.arr 3 rfl (by first | assumption | rfl | (simp; done)) (Nat.le_refl _) (by simp [maxLen]) | exact ViewsB.arr 4 rfl (by first | assumption | rfl | (simp; done)) (Nat.le_refl _) (by simp [maxLen]) | exact ViewsB.of_drop 1 (by assumption) | exact ViewsB.of_drop 2 (by assumption) | exact ViewsB.of_drop 3 (by assumption) | exact ViewsB.of_drop 4 (by assumption) | exact ViewsB.of_drop 5 (by assumption) | exact ViewsB.of_drop 6 (by assumption) | exact ViewsB.of_drop 7 (by assumption) | exact ViewsB.of_drop 8 (by assumption) | exact ViewsB.of_drop 9 (by assumption) | exact ViewsB.of_drop 10 (by assumption) | exact ViewsB.of_drop 11 (by assumption) | exact ViewsB.of_drop 12 (by assumption)) (by omega) (by first | omega | (simp; done) | (simp; omega)))) rfl ?_
  clear h a w; intro a w h
  refine wv h (r_move h rfl) rfl ?_
  clear h a w; intro a w h
  refine wnil (c_then ?_)
  refine c_block ?_
  refine c_loop (X := Nat) (fun i => [(0, v), (1, u), (9, v), (10, .int .i64 (l.length : Int)), (11, .int .i64 (i : Int))]) (fun _ => F) (fun i => i ≤ l.length ∧ i ≤ m.length ∧ cmpL l m = cmpL (l.drop i) (m.drop i)) (fun i => l.length - i) 0 (h.keep [0, 1, 9, 10, 11]) ⟨Nat.zero_le _, Nat.zero_le _, rfl⟩ ?_
  clear h a w; intro i a w hi h
  obtain ⟨h1, h2, h3⟩ := hi
  as_aux_lemma =>
   refine c_seq (c_region ?_)
   refine wv h (r_bin h rfl rfl (B.lss_int)) rfl ?_
   clear h a w; intro a w h
   refine wnil (c_then ?_)
   refine c_seq ?_
   refine c_condP (p := i < l.length) h rfl (by simp) (fun ht1 => ?_) (fun ht1 => ?_)
   ·
    have dl : l.drop i = l.getD i 0 :: l.drop (i + 1) := by rw [List.drop_eq_getElem_cons ht1]; congr 1; rw [List.getD_eq_getElem?_getD, List.getElem?_eq_getElem ht1]; rfl
    refine c_skip ?_
    refine c_then ?_
    refine c_seq ?_
    refine c_block ?_
    refine c_seq (c_region ?_)
    refine wv h (r_move h rfl) rfl ?_
    clear h a w; intro a w h
    refine wv h (r_elP h rfl rfl K.u_S_uint8 K.sz_uint8 (by first | exact ViewsB.own 0 rfl | exact ViewsB.own 1 rfl | exact ViewsB.own 2 rfl | exact ViewsB.own 3 rfl | exact ViewsB.own 4 rfl | exact ViewsB.own 5 rfl | assumption | exact ViewsB.nil _ | exact ViewsB.arr 0 rfl (by first | assumption | rfl | (simp; done)) (Nat.le_refl _) (by simp [maxLen]) | exact ViewsB.arr 1 rfl (by first | assumption | rfl | (simp; done)) (Nat.le_refl _) (by simp [maxLen]) | exact ViewsB.arr 2 rfl (by first | assumption | rfl | (simp; done)) (Nat.le_refl _) (by simp [maxLen]) | exact ViewsB.arr 3 rfl (by first | assumption | rfl | (simp; done)) (Nat.le_refl _) (by simp [maxLen]) | exact ViewsB.arr 4 rfl (by first | assumption | rfl | (simp; done)) (Nat.le_refl _) (by simp [maxLen]) | exact ViewsB.of_drop 1 (by assumption) | exact ViewsB.of_drop 2 (by assumption) | exact ViewsB.of_drop 3 (by assumption) | exact ViewsB.of_drop 4 (by assumption) | exact ViewsB.of_drop 5 (by assumption) | exact ViewsB.of_drop 6 (by assumption) | exact ViewsB.of_drop 7 (by assumption) | exact ViewsB.of_drop 8 (by assumption) | exact ViewsB.of_drop 9 (by assumption) | exact ViewsB.of_drop 10 (by assumption) | exact ViewsB.of_drop 11 (by assumption) | exact ViewsB.of_drop 12 (by assumption) | exact ViewsB.sub (by first | exact ViewsB.own 0 rfl | exact ViewsB.own 1 rfl | exact ViewsB.own 2 rfl | exact ViewsB.own 3 rfl | exact ViewsB.own 4 rfl | exact ViewsB.own 5 rfl | assumption | exact ViewsB.nil _ | exact ViewsB.arr 0 rfl (by first | assumption | rfl | (simp; done)) (Nat.le_refl _) (by simp [maxLen]) | exact ViewsB.arr 1 rfl (by first | assumption | rfl | (simp; done)) (Nat.le_refl _) (by simp [maxLen]) | exact ViewsB.arr 2 rfl (by first | assumption | rfl | (simp; done)) (Nat.le_refl _) (by simp [maxLen]) | exact ViewsB.arr 3 rfl (by first | assumption | rfl | (simp; done)) (Nat.le_refl _) (by simp [maxLen]) | exact ViewsB.arr 4 rfl (by first | assumption | rfl | (simp; done)) (Nat.le_refl _) (by simp [maxLen]) | exact ViewsB.of_drop 1 (by assumption) | exact ViewsB.of_drop 2 (by assumption) | exact ViewsB.of_drop 3 (by assumption) | exact ViewsB.of_drop 4 (by assumption) | exact ViewsB.of_drop 5 (by assumption) | exact ViewsB.of_drop 6 (by assumption) | exact ViewsB.of_drop 7 (by assumption) | exact ViewsB.of_drop 8 (by assumption) | exact ViewsB.of_drop 9 (by assumption) | exact ViewsB.of_drop 10 (by assumption) | exact ViewsB.of_drop 11 (by assumption) | exact ViewsB.of_drop 12 (by assumption)) (by omega) (by first | omega | (simp; done) | (simp; omega))) (by first | omega | (simp; done)) (by first | omega | (simp only [List.length_cons, List.length_nil]; omega) | (simp; done) | (simp; omega))) rfl ?_
    clear h a w; intro a w h
    refine wv h (r_elb h rfl K.u_uint8 rfl (by first | exact ViewsB.own 0 rfl | exact ViewsB.own 1 rfl | exact ViewsB.own 2 rfl | exact ViewsB.own 3 rfl | exact ViewsB.own 4 rfl | exact ViewsB.own 5 rfl | assumption | exact ViewsB.nil _ | exact ViewsB.arr 0 rfl (by first | assumption | rfl | (simp; done)) (Nat.le_refl _) (by simp [maxLen]) | exact ViewsB.arr 1 rfl (by first | assumption | rfl | (simp; done)) (Nat.le_refl _) (by simp [maxLen]) | exact ViewsB.arr 2 rfl (by first | assumption | rfl | (simp; done)) (Nat.le_refl _) (by simp [maxLen]) | exact ViewsB.arr 3 rfl (by first | assumption | rfl | (simp; done)) (Nat.le_refl _) (by simp [maxLen]) | exact ViewsB.arr 4 rfl (by first | assumption | rfl | (simp; done)) (Nat.le_refl _) (by simp [maxLen]) | exact ViewsB.of_drop 1 (by assumption) | exact ViewsB.of_drop 2 (by assumption) | exact ViewsB.of_drop 3 (by assumption) | exact ViewsB.of_drop 4 (by assumption) | exact ViewsB.of_drop 5 (by assumption) | exact ViewsB.of_drop 6 (by assumption) | exact ViewsB.of_drop 7 (by assumption) | exact ViewsB.of_drop 8 (by assumption) | exact ViewsB.of_drop 9 (by assumption) | exact ViewsB.of_drop 10 (by assumption) | exact ViewsB.of_drop 11 (by assumption) | exact ViewsB.of_drop 12 (by assumption) | exact ViewsB.sub (by first | exact ViewsB.own 0 rfl | exact ViewsB.own 1 rfl | exact ViewsB.own 2 rfl | exact ViewsB.own 3 rfl | exact ViewsB.own 4 rfl | exact ViewsB.own 5 rfl | assumption | exact ViewsB.nil _ | exact ViewsB.arr 0 rfl (by first | assumption | rfl | (simp; done)) (Nat.le_refl _) (by simp [maxLen]) | exact ViewsB.arr 1 rfl (by first | assumption | rfl | (simp; done)) (Nat.le_refl _) (by simp [maxLen]) | exact ViewsB.arr 2 rfl (by first | assumption | rfl | (simp; done)) (Nat.le_refl _) (by simp [maxLen]) | exact ViewsB.arr 3 rfl (by first | assumption | rfl | (simp; done)) (Nat.le_refl _) (by simp [maxLen]) | exact ViewsB.arr 4 rfl (by first | assumption | rfl | (simp; done)) (Nat.le_refl _) (by simp [maxLen]) | exact ViewsB.of_drop 1 (by assumption) | exact ViewsB.of_drop 2 (by assumption) | exact ViewsB.of_drop 3 (by assumption) | exact ViewsB.of_drop 4 (by assumption) | exact ViewsB.of_drop 5 (by assumption) | exact ViewsB.of_drop 6 (by assumption) | exact ViewsB.of_drop 7 (by assumption) | exact ViewsB.of_drop 8 (by assumption) | exact ViewsB.of_drop 9 (by assumption) | exact ViewsB.of_drop 10 (by assumption) | exact ViewsB.of_drop 11 (by assumption) | exact ViewsB.of_drop 12 (by assumption)) (by omega) (by first | omega | (simp; done) | (simp; omega))) (by first | omega | (simp only [List.length_cons, List.length_nil]; omega) | (simp; done) | (simp; omega))) rfl ?_
    clear h a w; intro a w h
    refine wv h (r_assign h rfl) rfl ?_
    clear h a w; intro a w h
    refine wv h (r_assign h rfl) rfl ?_
    clear h a w; intro a w h
    refine wnil (c_then ?_)
    refine c_seq ?_
    refine c_seq (c_region ?_)
    refine wv h (r_move h rfl) rfl ?_
    clear h a w; intro a w h
    refine wv h (r_move h rfl) rfl ?_
    clear h a w; intro a w h
    refine wv h (r_lenB h rfl K.u_S_uint8 (by first | exact ViewsB.own 0 rfl | exact ViewsB.own 1 rfl | exact ViewsB.own 2 rfl | exact ViewsB.own 3 rfl | exact ViewsB.own 4 rfl | exact ViewsB.own 5 rfl | assumption | exact ViewsB.nil _ | exact ViewsB.arr 0 rfl (by first | assumption | rfl | (simp; done)) (Nat.le_refl _) (by simp [maxLen]) | exact ViewsB.arr 1 rfl (by first | assumption | rfl | (simp; done)) (Nat.le_refl _) (by simp [maxLen]) | exact ViewsB.arr 2 rfl (by first | assumption | rfl | (simp; done)) (Nat.le_refl _) (by simp [maxLen]) | exact ViewsB.arr 3 rfl (by first | assumption | rfl | (simp; done)) (Nat.le_refl _) (by simp [maxLen]) | exact ViewsB.arr 4 rfl (by first | assumption | rfl | (simp; done)) (Nat.le_refl _) (by simp [maxLen]) | exact ViewsB.of_drop 1 (by assumption) | exact ViewsB.of_drop 2 (by assumption) | exact ViewsB.of_drop 3 (by assumption) | exact ViewsB.of_drop 4 (by assumption) | exact ViewsB.of_drop 5 (by assumption) | exact ViewsB.of_drop 6 (by assumption) | exact ViewsB.of_drop 7 (by assumption) | exact ViewsB.of_drop 8 (by assumption) | exact ViewsB.of_drop 9 (by assumption) | exact ViewsB.of_drop 10 (by assumption) | exact ViewsB.of_drop 11 (by assumption) | exact ViewsB.of_drop 12 (by assumption) | exact ViewsB.sub (by first | exact ViewsB.own 0 rfl | exact ViewsB.own 1 rfl | exact ViewsB.own 2 rfl | exact ViewsB.own 3 rfl | exact ViewsB.own 4 rfl | exact ViewsB.own 5 rfl | assumption | exact ViewsB.nil _ | exact ViewsB.arr 0 rfl (by first | assumption | rfl | (simp; done)) (Nat.le_refl _) (by simp [maxLen]) | exact ViewsB.arr 1 rfl (by first | assumption | rfl | (simp; done)) (Nat.le_refl _) (by simp [maxLen]) | exact ViewsB.arr 2 rfl (by first | assumption | rfl | (simp; done)) (Nat.le_refl _) (by simp [maxLen]) | exact ViewsB.arr 3 rfl (by first | assumption | rfl | (simp; done)) (Nat.le_refl _) (by simp [maxLen]) | exact ViewsB.arr 4 rfl (by first | assumption | rfl | (simp; done)) (Nat.le_refl _) (by simp [maxLen]) | exact ViewsB.of_drop 1 (by assumption) | exact ViewsB.of_drop 2 (by assumption) | exact ViewsB.of_drop 3 (by assumption) | exact ViewsB.of_drop 4 (by assumption) | exact ViewsB.of_drop 5 (by assumption) | exact ViewsB.of_drop 6 (by assumption) | exact ViewsB.of_drop 7 (by assumption) | exact ViewsB.of_drop 8 (by assumption) | exact ViewsB.of_drop 9 (by assumption) | exact ViewsB.of_drop 10 (by assumption) | exact ViewsB.of_drop 11 (by assumption) | exact ViewsB.of_drop 12 (by assumption)) (by omega) (by first | omega | (simp; done) | (simp; omega)))) rfl ?_
    clear h a w; intro a w h
    refine wv h (r_bin h rfl rfl (B.geq_int)) rfl ?_
    clear h a w; intro a w h
    refine wnil (c_then ?_)
    refine c_condP (p := m.length ≤ i) h rfl (by simp) (fun ht2 => ?_) (fun ht2 => ?_)
    ·
     as_aux_lemma =>
      refine c_seq (c_region ?_)
      refine wv h (r_assign h rfl) rfl ?_
      clear h a w; intro a w h
      refine wnil (c_then ?_)
      refine c_ret ?_
      rw [dl, List.drop_eq_nil_of_le ht2] at h3
      exact ret1 h rfl rfl ⟨(), by rw [h3]; rfl, h.2, trivial⟩
    ·
     have hlt2 : i < m.length := by omega
     have dm : m.drop i = m.getD i 0 :: m.drop (i + 1) := by rw [List.drop_eq_getElem_cons hlt2]; congr 1; rw [List.getD_eq_getElem?_getD, List.getElem?_eq_getElem hlt2]; rfl
     rw [dl, dm, cmpL] at h3
     refine c_skip ?_
     refine c_then ?_
     refine c_seq (c_region ?_)
     refine wv h (r_move h rfl) rfl ?_
     clear h a w; intro a w h
     refine wv h (r_move h rfl) rfl ?_
     clear h a w; intro a w h
     refine wv h (r_elP h rfl rfl K.u_S_uint8 K.sz_uint8 (by first | exact ViewsB.own 0 rfl | exact ViewsB.own 1 rfl | exact ViewsB.own 2 rfl | exact ViewsB.own 3 rfl | exact ViewsB.own 4 rfl | exact ViewsB.own 5 rfl | assumption | exact ViewsB.nil _ | exact ViewsB.arr 0 rfl (by first | assumption | rfl | (simp; done)) (Nat.le_refl _) (by simp [maxLen]) | exact ViewsB.arr 1 rfl (by first | assumption | rfl | (simp; done)) (Nat.le_refl _) (by simp [maxLen]) | exact ViewsB.arr 2 rfl (by first | assumption | rfl | (simp; done)) (Nat.le_refl _) (by simp [maxLen]) | exact ViewsB.arr 3 rfl (by first | assumption | rfl | (simp; done)) (Nat.le_refl _) (by simp [maxLen]) | exact ViewsB.arr 4 rfl (by first | assumption | rfl | (simp; done)) (Nat.le_refl _) (by simp [maxLen]) | exact ViewsB.of_drop 1 (by assumption) | exact ViewsB.of_drop 2 (by assumption) | exact ViewsB.of_drop 3 (by assumption) | exact ViewsB.of_drop 4 (by assumption) | exact ViewsB.of_drop 5 (by assumption) | exact ViewsB.of_drop 6 (by assumption) | exact ViewsB.of_drop 7 (by assumption) | exact ViewsB.of_drop 8 (by assumption) | exact ViewsB.of_drop 9 (by assumption) | exact ViewsB.of_drop 10 (by assumption) | exact ViewsB.of_drop 11 (by assumption) | exact ViewsB.of_drop 12 (by assumption) | exact ViewsB.sub (by first | exact ViewsB.own 0 rfl | exact ViewsB.own 1 rfl | exact ViewsB.own 2 rfl | exact ViewsB.own 3 rfl | exact ViewsB.own 4 rfl | exact ViewsB.own 5 rfl | assumption | exact ViewsB.nil _ | exact ViewsB.arr 0 rfl (by first | assumption | rfl | (simp; done)) (Nat.le_refl _) (by simp [maxLen]) | exact ViewsB.arr 1 rfl (by first | assumption | rfl | (simp; done)) (Nat.le_refl _) (by simp [maxLen]) | exact ViewsB.arr 2 rfl (by first | assumption | rfl | (simp; done)) (Nat.le_refl _) (by simp [maxLen]) | exact ViewsB.arr 3 rfl (by first | assumption | rfl | (simp; done)) (Nat.le_refl _) (by simp [maxLen]) | exact ViewsB.arr 4 rfl (by first | assumption | rfl | (simp; done)) (Nat.le_refl _) (by simp [maxLen]) | exact ViewsB.of_drop 1 (by assumption) | exact ViewsB.of_drop 2 (by assumption) | exact ViewsB.of_drop 3 (by assumption) | exact ViewsB.of_drop 4 (by assumption) | exact ViewsB.of_drop 5 (by assumption) | exact ViewsB.of_drop 6 (by assumption) | exact ViewsB.of_drop 7 (by assumption) | exact ViewsB.of_drop 8 (by assumption) | exact ViewsB.of_drop 9 (by assumption) | exact ViewsB.of_drop 10 (by assumption) | exact ViewsB.of_drop 11 (by assumption) | exact ViewsB.of_drop 12 (by assumption)) (by omega) (by first | omega | (simp; done) | (simp; omega))) (by first | omega | (simp; done)) (by first | omega | (simp only [List.length_cons, List.length_nil]; omega) | (simp; done) | (simp; omega))) rfl ?_
     clear h a w; intro a w h
     refine wv h (r_elb h rfl K.u_uint8 rfl (by first | exact ViewsB.own 0 rfl | exact ViewsB.own 1 rfl | exact ViewsB.own 2 rfl | exact ViewsB.own 3 rfl | exact ViewsB.own 4 rfl | exact ViewsB.own 5 rfl | assumption | exact ViewsB.nil _ | exact ViewsB.arr 0 rfl (by first | assumption | rfl | (simp; done)) (Nat.le_refl _) (by simp [maxLen]) | exact ViewsB.arr 1 rfl (by first | assumption | rfl | (simp; done)) (Nat.le_refl _) (by simp [maxLen]) | exact ViewsB.arr 2 rfl (by first | assumption | rfl | (simp; done)) (Nat.le_refl _) (by simp [maxLen]) | exact ViewsB.arr 3 rfl (by first | assumption | rfl | (simp; done)) (Nat.le_refl _) (by simp [maxLen]) | exact ViewsB.arr 4 rfl (by first | assumption | rfl | (simp; done)) (Nat.le_refl _) (by simp [maxLen]) | exact ViewsB.of_drop 1 (by assumption) | exact ViewsB.of_drop 2 (by assumption) | exact ViewsB.of_drop 3 (by assumption) | exact ViewsB.of_drop 4 (by assumption) | exact ViewsB.of_drop 5 (by assumption) | exact ViewsB.of_drop 6 (by assumption) | exact ViewsB.of_drop 7 (by assumption) | exact ViewsB.of_drop 8 (by assumption) | exact ViewsB.of_drop 9 (by assumption) | exact ViewsB.of_drop 10 (by assumption) | exact ViewsB.of_drop 11 (by assumption) | exact ViewsB.of_drop 12 (by assumption) | exact ViewsB.sub (by first | exact ViewsB.own 0 rfl | exact ViewsB.own 1 rfl | exact ViewsB.own 2 rfl | exact ViewsB.own 3 rfl | exact ViewsB.own 4 rfl | exact ViewsB.own 5 rfl | assumption | exact ViewsB.nil _ | exact ViewsB.arr 0 rfl (by first | assumption | rfl | (simp; done)) (Nat.le_refl _) (by simp [maxLen]) | exact ViewsB.arr 1 rfl (by first | assumption | rfl | (simp; done)) (Nat.le_refl _) (by simp [maxLen]) | exact ViewsB.arr 2 rfl (by first | assumption | rfl | (simp; done)) (Nat.le_refl _) (by simp [maxLen]) | exact ViewsB.arr 3 rfl (by first | assumption | rfl | (simp; done)) (Nat.le_refl _) (by simp [maxLen]) | exact ViewsB.arr 4 rfl (by first | assumption | rfl | (simp; done)) (Nat.le_refl _) (by simp [maxLen]) | exact ViewsB.of_drop 1 (by assumption) | exact ViewsB.of_drop 2 (by assumption) | exact ViewsB.of_drop 3 (by assumption) | exact ViewsB.of_drop 4 (by assumption) | exact ViewsB.of_drop 5 (by assumption) | exact ViewsB.of_drop 6 (by assumption) | exact ViewsB.of_drop 7 (by assumption) | exact ViewsB.of_drop 8 (by assumption) | exact ViewsB.of_drop 9 (by assumption) | exact ViewsB.of_drop 10 (by assumption) | exact ViewsB.of_drop 11 (by assumption) | exact ViewsB.of_drop 12 (by assumption)) (by omega) (by first | omega | (simp; done) | (simp; omega))) (by first | omega | (simp only [List.length_cons, List.length_nil]; omega) | (simp; done) | (simp; omega))) rfl ?_
     clear h a w; intro a w h
     refine wv h (r_assign h rfl) rfl ?_
     clear h a w; intro a w h
     refine wnil (c_then ?_)
     refine c_seq (c_region ?_)
     refine wv h (r_move h rfl) rfl ?_
     clear h a w; intro a w h
     refine wv h (r_move h rfl) rfl ?_
     clear h a w; intro a w h
     refine wl rfl (op_call h rfl K.go_cmp_Compare_byte (sl_cmp s _ _ _ _ h.2) rfl ?_)
     clear h a w; intro z26 a w hz26 h
     (try simp only [List.set_cons_zero, List.set_cons_succ] at h)
     refine wv h (r_assign h rfl) rfl ?_
     clear h a w; intro a w h
     refine wnil (c_then ?_)
     refine c_seq (c_region ?_)
     refine wv h (r_move h rfl) rfl ?_
     clear h a w; intro a w h
     refine wv h (r_bin h rfl rfl (B.neq_int)) rfl ?_
     clear h a w; intro a w h
     refine wnil (c_then ?_)
     refine c_condP (p := cmp8 (l.getD i 0) (m.getD i 0) ≠ 0) h rfl (by simp) (fun ht3 => ?_) (fun ht3 => ?_)
     ·
      as_aux_lemma =>
       refine c_seq (c_region ?_)
       refine wv h (r_move h rfl) rfl ?_
       clear h a w; intro a w h
       refine wv h (r_assign h rfl) rfl ?_
       clear h a w; intro a w h
       refine wnil (c_then ?_)
       refine c_ret ?_
       rw [if_pos ht3] at h3
       exact ret1 h rfl rfl ⟨(), by rw [h3], h.2, trivial⟩
     ·
      refine c_skip ?_
      refine b_normal ?_
      refine c_then ?_
      refine c_region ?_
      refine wv h (r_bin h rfl rfl (B.add_i64 (by omega) (by omega))) rfl ?_
      clear h a w; intro a w h
      refine wv h (r_move h rfl) rfl ?_
      clear h a w; intro a w h
      refine wnil ?_
      rw [if_neg ht3] at h3
      exact ⟨i + 1, h.keep [0, 1, 9, 10, 11], ⟨ht1, hlt2, h3⟩, by omega⟩
   ·
    refine c_exit ?_
    refine e_then ?_
    refine e_then ?_
    refine e_here ?_
    refine c_then ?_
    refine c_seq ?_
    refine c_seq (c_region ?_)
    refine wv h (r_move h rfl) rfl ?_
    clear h a w; intro a w h
    refine wv h (r_lenB h rfl K.u_S_uint8 (by first | exact ViewsB.own 0 rfl | exact ViewsB.own 1 rfl | exact ViewsB.own 2 rfl | exact ViewsB.own 3 rfl | exact ViewsB.own 4 rfl | exact ViewsB.own 5 rfl | assumption | exact ViewsB.nil _ | exact ViewsB.arr 0 rfl (by first | assumption | rfl | (simp; done)) (Nat.le_refl _) (by simp [maxLen]) | exact ViewsB.arr 1 rfl (by first | assumption | rfl | (simp; done)) (Nat.le_refl _) (by simp [maxLen]) | exact ViewsB.arr 2 rfl (by first | assumption | rfl | (simp; done)) (Nat.le_refl _) (by simp [maxLen]) | exact ViewsB.arr 3 rfl (by first | assumption | rfl | (simp; done)) (Nat.le_refl _) (by simp [maxLen]) | exact ViewsB.arr 4 rfl (by first | assumption | rfl | (simp; done)) (Nat.le_refl _) (by simp [maxLen]) | exact ViewsB.of_drop 1 (by assumption) | exact ViewsB.of_drop 2 (by assumption) | exact ViewsB.of_drop 3 (by assumption) | exact ViewsB.of_drop 4 (by assumption) | exact ViewsB.of_drop 5 (by assumption) | exact ViewsB.of_drop 6 (by assumption) | exact ViewsB.of_drop 7 (by assumption) | exact ViewsB.of_drop 8 (by assumption) | exact ViewsB.of_drop 9 (by assumption) | exact ViewsB.of_drop 10 (by assumption) | exact ViewsB.of_drop 11 (by assumption) | exact ViewsB.of_drop 12 (by assumption) | exact ViewsB.sub (by first | exact ViewsB.own 0 rfl | exact ViewsB.own 1 rfl | exact ViewsB.own 2 rfl | exact ViewsB.own 3 rfl | exact ViewsB.own 4 rfl | exact ViewsB.own 5 rfl | assumption | exact ViewsB.nil _ | exact ViewsB.arr 0 rfl (by first | assumption | rfl | (simp; done)) (Nat.le_refl _) (by simp [maxLen]) | exact ViewsB.arr 1 rfl (by first | assumption | rfl | (simp; done)) (Nat.le_refl _) (by simp [maxLen]) | exact ViewsB.arr 2 rfl (by first | assumption | rfl | (simp; done)) (Nat.le_refl _) (by simp [maxLen]) | exact ViewsB.arr 3 rfl (by first | assumption | rfl | (simp; done)) (Nat.le_refl _) (by simp [maxLen]) | exact ViewsB.arr 4 rfl (by first | assumption | rfl | (simp; done)) (Nat.le_refl _) (by simp [maxLen]) | exact ViewsB.of_drop 1 (by assumption) | exact ViewsB.of_drop 2 (by assumption) | exact ViewsB.of_drop 3 (by assumption) | exact ViewsB.of_drop 4 (by assumption) | exact ViewsB.of_drop 5 (by assumption) | exact ViewsB.of_drop 6 (by assumption) | exact ViewsB.of_drop 7 (by assumption) | exact ViewsB.of_drop 8 (by assumption) | exact ViewsB.of_drop 9 (by assumption) | exact ViewsB.of_drop 10 (by assumption) | exact ViewsB.of_drop 11 (by assumption) | exact ViewsB.of_drop 12 (by assumption)) (by omega) (by first | omega | (simp; done) | (simp; omega)))) rfl ?_
    clear h a w; intro a w h
    refine wv h (r_move h rfl) rfl ?_
    clear h a w; intro a w h
    refine wv h (r_lenB h rfl K.u_S_uint8 (by first | exact ViewsB.own 0 rfl | exact ViewsB.own 1 rfl | exact ViewsB.own 2 rfl | exact ViewsB.own 3 rfl | exact ViewsB.own 4 rfl | exact ViewsB.own 5 rfl | assumption | exact ViewsB.nil _ | exact ViewsB.arr 0 rfl (by first | assumption | rfl | (simp; done)) (Nat.le_refl _) (by simp [maxLen]) | exact ViewsB.arr 1 rfl (by first | assumption | rfl | (simp; done)) (Nat.le_refl _) (by simp [maxLen]) | exact ViewsB.arr 2 rfl (by first | assumption | rfl | (simp; done)) (Nat.le_refl _) (by simp [maxLen]) | exact ViewsB.arr 3 rfl (by first | assumption | rfl | (simp; done)) (Nat.le_refl _) (by simp [maxLen]) | exact ViewsB.arr 4 rfl (by first | assumption | rfl | (simp; done)) (Nat.le_refl _) (by simp [maxLen]) | exact ViewsB.of_drop 1 (by assumption) | exact ViewsB.of_drop 2 (by assumption) | exact ViewsB.of_drop 3 (by assumption) | exact ViewsB.of_drop 4 (by assumption) | exact ViewsB.of_drop 5 (by assumption) | exact ViewsB.of_drop 6 (by assumption) | exact ViewsB.of_drop 7 (by assumption) | exact ViewsB.of_drop 8 (by assumption) | exact ViewsB.of_drop 9 (by assumption) | exact ViewsB.of_drop 10 (by assumption) | exact ViewsB.of_drop 11 (by assumption) | exact ViewsB.of_drop 12 (by assumption) | exact ViewsB.sub (by first | exact ViewsB.own 0 rfl | exact ViewsB.own 1 rfl | exact ViewsB.own 2 rfl | exact ViewsB.own 3 rfl | exact ViewsB.own 4 rfl | exact ViewsB.own 5 rfl | assumption | exact ViewsB.nil _ | exact ViewsB.arr 0 rfl (by first | assumption | rfl | (simp; done)) (Nat.le_refl _) (by simp [maxLen]) | exact ViewsB.arr 1 rfl (by first | assumption | rfl | (simp; done)) (Nat.le_refl _) (by simp [maxLen]) | exact ViewsB.arr 2 rfl (by first | assumption | rfl | (simp; done)) (Nat.le_refl _) (by simp [maxLen]) | exact ViewsB.arr 3 rfl (by first | assumption | rfl | (simp; done)) (Nat.le_refl _) (by simp [maxLen]) | exact ViewsB.arr 4 rfl (by first | assumption | rfl | (simp; done)) (Nat.le_refl _) (by simp [maxLen]) | exact ViewsB.of_drop 1 (by assumption) | exact ViewsB.of_drop 2 (by assumption) | exact ViewsB.of_drop 3 (by assumption) | exact ViewsB.of_drop 4 (by assumption) | exact ViewsB.of_drop 5 (by assumption) | exact ViewsB.of_drop 6 (by assumption) | exact ViewsB.of_drop 7 (by assumption) | exact ViewsB.of_drop 8 (by assumption) | exact ViewsB.of_drop 9 (by assumption) | exact ViewsB.of_drop 10 (by assumption) | exact ViewsB.of_drop 11 (by assumption) | exact ViewsB.of_drop 12 (by assumption)) (by omega) (by first | omega | (simp; done) | (simp; omega)))) rfl ?_
    clear h a w; intro a w h
    refine wv h (r_bin h rfl rfl (B.lss_int)) rfl ?_
    clear h a w; intro a w h
    refine wnil (c_then ?_)
    refine c_condP (p := l.length < m.length) h rfl (by simp) (fun ht4 => ?_) (fun ht4 => ?_)
    ·
     as_aux_lemma =>
      refine c_seq (c_region ?_)
      refine wv h (r_assign h rfl) rfl ?_
      clear h a w; intro a w h
      refine wnil (c_then ?_)
      refine c_ret ?_
      rw [List.drop_eq_nil_of_le (by omega), List.drop_eq_getElem_cons (show i < m.length by omega)] at h3
      exact ret1 h rfl rfl ⟨(), by rw [h3]; rfl, h.2, trivial⟩
    ·
     refine c_skip ?_
     refine c_then ?_
     refine c_seq (c_region ?_)
     refine wv h (r_assign h rfl) rfl ?_
     clear h a w; intro a w h
     refine wnil (c_then ?_)
     refine c_ret ?_
     rw [List.drop_eq_nil_of_le (by omega), List.drop_eq_nil_of_le (by omega)] at h3
     exact ret1 h rfl rfl ⟨(), by rw [h3]; rfl, h.2, trivial⟩
def itV (i : ItV) : Value := .agg ⟨cellsI i⟩
theorem key_view {L : List HItem} {b : Nat} {T : TypeId} (i : ItV) (j : Nat) (hj : L[j]? = some (Blk b (.cells ⟨cellsI i⟩ T))) : ViewsB L (.slice (some ⟨b, 0, none⟩) 32 32) i.k.val := by
  have e : i.k.val.length = 32 := i.k.len
  unfold ViewsB
  rw [e]
  exact Views.blk j hj rfl rfl (by show (List.drop 0 (bs i.k.val ++ _)).take (32 * 1) = _; rw [List.drop_zero, List.take_left' (by rw [bs_length, e])]) (by rw [bs_length, e])
theorem srt_1 (s w : World) (x y : ItV) (F : List HItem) (hs : Sat s w F) :
    Calls P n_pack_sorted_1 #[itV x, itV y] w (Ret s (fun _ : Unit => .int .i64 (cmpL x.k.val y.k.val)) (fun _ => F) (fun _ => True)) := by
  refine enter K.fn_pack_sorted_1 rfl K.nt_pack_sorted_1 rfl hs ?_
  clear hs w; intro a w h
  unfold itV at h
  refine c_seq (c_region ?_)
  refine wl rfl (op_box h rfl rfl ?_)
  clear h a w; intro b2 a w h
  try simp only [Value.cells] at h
  refine wl rfl (op_box h rfl rfl ?_)
  clear h a w; intro b3 a w h
  try simp only [Value.cells] at h
  refine wv h (r_assign h rfl) rfl ?_
  clear h a w; intro a w h
  refine wnil (c_then ?_)
  refine c_seq (c_draw K.mixed (by kernel_rfl) h ?_)
  clear h a w; intro a hE
  first
    | (refine qv hE (fun w hw => r_fieldAddr0 ⟨hE, hw⟩ rfl K.u_pack_item rfl K.sz_api_Key rfl rfl) rfl ?_)
    | (refine qv hE (fun w hw => op_fieldC ⟨hE, hw⟩ 0 rfl K.u_pack_item rfl K.sz_api_Key rfl rfl (by assumption) rfl) rfl ?_)
  clear hE a; intro a hE
  refine qv hE (fun w hw => r_sliceA ⟨hE, hw⟩ rfl K.u_api_Key K.sz_uint8 rfl) rfl ?_
  clear hE a; intro a hE
  first
    | (refine qv hE (fun w hw => r_fieldAddr0 ⟨hE, hw⟩ rfl K.u_pack_item rfl K.sz_api_Key rfl rfl) rfl ?_)
    | (refine qv hE (fun w hw => op_fieldC ⟨hE, hw⟩ 0 rfl K.u_pack_item rfl K.sz_api_Key rfl rfl (by assumption) rfl) rfl ?_)
  clear hE a; intro a hE
  refine qv hE (fun w hw => r_sliceA ⟨hE, hw⟩ rfl K.u_api_Key K.sz_uint8 rfl) rfl ?_
  clear hE a; intro a hE
  refine q_c hE rfl K.go_slices_Compare_byte_byte (fun w hw => sl_Compare s _ (.slice (some ⟨b2, 0, none⟩) 32 32) (.slice (some ⟨b3, 0, none⟩) 32 32) x.k.val y.k.val _ (key_view x 1 rfl) (key_view y 0 rfl) (by rw [x.k.len]; decide) (by rw [y.k.len]; decide) hw) rfl ?_
  clear hE a; intro a hE
  refine qv hE (fun w hw => r_assign ⟨hE, hw⟩ rfl) rfl ?_
  clear hE a; intro a hE
  refine qnil hE ?_
  clear hE a; intro a w h
  refine c_then ?_
  refine c_ret ?_
  exact ret1 h rfl rfl ⟨(), rfl, h.2.drop 2, trivial⟩
theorem srt_2 (s w : World) (x y : ItV) (F : List HItem) (hs : Sat s w F) :
    Calls P n_pack_sorted_2 #[itV x, itV y] w (Ret s (fun _ : Unit => .bool (decide (x.k = y.k))) (fun _ => F) (fun _ => True)) := by
  refine enter K.fn_pack_sorted_2 rfl K.nt_pack_sorted_2 rfl hs ?_
  clear hs w; intro a w h
  unfold itV at h
  refine c_seq (c_region ?_)
  refine wl rfl (op_box h rfl rfl ?_)
  clear h a w; intro b2 a w h
  try simp only [Value.cells] at h
  refine wl rfl (op_box h rfl rfl ?_)
  clear h a w; intro b3 a w h
  try simp only [Value.cells] at h
  refine wv h (r_assign h rfl) rfl ?_
  clear h a w; intro a w h
  refine wnil (c_then ?_)
  have hx32 : (cellsI x).take 32 = bs x.k.val := by show (bs x.k.val ++ _).take 32 = _; rw [List.take_left' (by rw [bs_length, x.k.len])]
  have hy32 : (cellsI y).take 32 = bs y.k.val := by show (bs y.k.val ++ _).take 32 = _; rw [List.take_left' (by rw [bs_length, y.k.len])]
  refine c_seq (c_region ?_)
  refine wv h (r_fieldAddr0 h rfl K.u_pack_item rfl K.sz_api_Key rfl rfl) rfl ?_
  clear h a w; intro a w h
  refine wv h (r_ldF (o := 0) (us := bs x.k.val) h rfl K.u_api_Key rfl K.sz_api_Key 1 rfl hx32 (by rw [bs_length, x.k.len])) rfl ?_
  clear h a w; intro a w h
  refine wv h (r_fieldAddr0 h rfl K.u_pack_item rfl K.sz_api_Key rfl rfl) rfl ?_
  clear h a w; intro a w h
  refine wv h (r_ldF (o := 0) (us := bs y.k.val) h rfl K.u_api_Key rfl K.sz_api_Key 0 rfl hy32 (by rw [bs_length, y.k.len])) rfl ?_
  clear h a w; intro a w h
  refine wv h (r_arreq h rfl rfl K.u_api_Key K.u_uint8 K.sz_uint8 (by kernel_rfl) (by first | rfl | assumption | (simp; done) | (simp; omega) | omega) (by first | rfl | assumption | (simp; done) | (simp; omega) | omega)) rfl ?_
  clear h a w; intro a w h
  refine wv h (r_assign h rfl) rfl ?_
  clear h a w; intro a w h
  refine wnil (c_then ?_)
  refine c_ret ?_
  exact ret1 h rfl rfl ⟨(), by rw [show decide (x.k.val = y.k.val) = decide (x.k = y.k) from decide_eq_decide.2 ⟨BA.ext', fun e => by rw [e]⟩], h.2.drop 2, trivial⟩
def cmpV : Value := .func (.func n_pack_sorted_1) #[] #[]
theorem srt_call (s w : World) (x y : ItV) (F : List HItem) (hs : Sat s w F) :
    Calls P n_pack_sorted_1 (#[] ++ [itV x, itV y].toArray ++ #[]) w (Ret s (fun _ : Unit => .int .i64 (cmpL x.k.val y.k.val)) (fun _ => F) (fun _ => True)) := srt_1 s w x y F hs
theorem cmp_lt (x y : ItV) : decide (cmpL x.k.val y.k.val < 0) = lt x y := by
  have := cmpL_lt x.k.val y.k.val
  unfold lt
  cases h : Op.bytesLess x.k.val y.k.val with
  | true => exact decide_eq_true (this.2 h)
  | false => exact decide_eq_false (fun q => by rw [this.1 q] at h; cases h)
end Go.Proofs.K

/- Stable sorting of items: ranges that change places. -/
namespace Go.Proofs.K
open Go.Sl
attribute [local irreducible] Go.Sl.Own Go.Sl.Blk Go.Sl.Sep Go.Sl.Ex Go.Sl.Fact
theorem sl_swapRange (s w : World) (v gv : Value) (l : List ItV) (a0 b0 n : Nat) (F : List HItem) (ha : a0 + n ≤ b0) (hb : b0 + n ≤ l.length) (hl : l.length ≤ 4000000) (hs : Sat s w (OwnM 33 cellsI v l :: F)) :
    Calls P n_slices_swapRangeCmpFunc_pack_item #[v, .int .i64 (a0 : Int), .int .i64 (b0 : Int), .int .i64 (n : Int), gv] w (Ret s (fun _ : Unit => .tuple #[]) (fun _ => OwnM 33 cellsI v (swpN l a0 b0 n) :: F) (fun _ => True)) := by
  refine enter K.fn_slices_swapRangeCmpFunc_pack_item rfl K.nt_slices_swapRangeCmpFunc_pack_item rfl hs ?_
  clear hs w; intro a w h
  refine c_seq (c_region ?_)
  refine wv h (r_assign h rfl) rfl ?_
  clear h a w; intro a w h
  refine wnil (c_then ?_)
  refine c_block ?_
  refine c_loop (X := Nat) (fun i => [(0, v), (1, .int .i64 (a0 : Int)), (2, .int .i64 (b0 : Int)), (3, .int .i64 (n : Int)), (10, .int .i64 (i : Int))]) (fun i => OwnM 33 cellsI v (swpN l a0 b0 i) :: F) (fun i => i ≤ n) (fun i => n - i) 0 (h.keep [0, 1, 2, 3, 10]) (Nat.zero_le _) ?_
  clear h a w; intro i a w hi h
  as_aux_lemma =>
   refine c_seq ?_
   refine c_seq (c_region ?_)
   refine wv h (r_move h rfl) rfl ?_
   clear h a w; intro a w h
   refine wv h (r_move h rfl) rfl ?_
   clear h a w; intro a w h
   refine wv h (r_bin h rfl rfl (B.lss_int)) rfl ?_
   clear h a w; intro a w h
   refine wnil (c_then ?_)
   refine c_condP (p := i < n) h rfl (by simp) (fun ht1 => ?_) (fun ht1 => ?_)
   ·
    obtain ⟨cur, hcur⟩ : ∃ cur, cur = swpN l a0 b0 i := ⟨_, rfl⟩
    rw [← hcur] at h
    have hcl : cur.length = l.length := by rw [hcur, swpN_len]
    obtain ⟨x, hx⟩ : ∃ x, cur[a0 + i]? = some x := ⟨_, List.getElem?_eq_getElem (by omega)⟩
    obtain ⟨y, hy⟩ : ∃ y, cur[b0 + i]? = some y := ⟨_, List.getElem?_eq_getElem (by omega)⟩
    have hsp : Shp v cur.length := Sat.shp h.2 (by omega)
    refine c_skip ?_
    refine c_then ?_
    refine c_seq ?_
    refine c_block ?_
    refine c_drawn 24 K.mixed rfl h ?_
    clear h a w; intro a w h
    have hD : Paid s w [] := Paid.nil
    refine d_take0 (listed' := #[true, false, false, false, false, false, false, false, false, false, false, false, false, false, false, false, false, false, false, false, false, false, false, false]) h hD 0 (by as_aux_lemma => kernel_rfl) rfl (by as_aux_lemma => kernel_rfl) (by as_aux_lemma => kernel_rfl) (by as_aux_lemma => kernel_rfl) (fun _ _ _ _ hh => hh) (fun w h => by first | exact r_move h rfl) rfl ?_
    clear hD h a w; intro a w h hD
    refine d_take0 (listed' := #[true, true, false, false, false, false, false, false, false, false, false, false, false, false, false, false, false, false, false, false, false, false, false, false]) h hD 1 (by as_aux_lemma => kernel_rfl) rfl (by as_aux_lemma => kernel_rfl) (by as_aux_lemma => kernel_rfl) (by as_aux_lemma => kernel_rfl) (fun _ _ _ _ hh => hh) (fun w h => by first | exact r_move h rfl) rfl ?_
    clear hD h a w; intro a w h hD
    refine d_take0 (listed' := #[true, true, true, false, false, false, false, false, false, false, false, false, false, false, false, false, false, false, false, false, false, false, false, false]) h hD 2 (by as_aux_lemma => kernel_rfl) rfl (by as_aux_lemma => kernel_rfl) (by as_aux_lemma => kernel_rfl) (by as_aux_lemma => kernel_rfl) (fun _ _ _ _ hh => hh) (fun w h => by first | exact r_move h rfl) rfl ?_
    clear hD h a w; intro a w h hD
    refine d_take0 (listed' := #[true, true, true, true, false, false, false, false, false, false, false, false, false, false, false, false, false, false, false, false, false, false, false, false]) h hD 3 (by as_aux_lemma => kernel_rfl) rfl (by as_aux_lemma => kernel_rfl) (by as_aux_lemma => kernel_rfl) (by as_aux_lemma => kernel_rfl) (fun _ _ _ _ hh => hh) (fun w h => by first | exact r_bin h rfl rfl (B.add_i64 (by omega) (by omega))) rfl ?_
    clear hD h a w; intro a w h hD
    refine d_take0 (listed' := #[true, true, true, true, true, false, false, false, false, false, false, false, false, false, false, false, false, false, false, false, false, false, false, false]) h hD 4 (by as_aux_lemma => kernel_rfl) rfl (by as_aux_lemma => kernel_rfl) (by as_aux_lemma => kernel_rfl) (by as_aux_lemma => kernel_rfl) (fun _ _ _ _ hh => hh) (fun w h => by first | exact r_move h rfl) rfl ?_
    clear hD h a w; intro a w h hD
    refine d_take0 (listed' := #[true, true, true, true, true, true, false, false, false, false, false, false, false, false, false, false, false, false, false, false, false, false, false, false]) h hD 5 (by as_aux_lemma => kernel_rfl) rfl (by as_aux_lemma => kernel_rfl) (by as_aux_lemma => kernel_rfl) (by as_aux_lemma => kernel_rfl) (fun _ _ _ _ hh => hh) (fun w h => by first | exact r_move h rfl) rfl ?_
    clear hD h a w; intro a w h hD
    refine d_take0 (listed' := #[true, true, true, true, true, true, true, false, false, false, false, false, false, false, false, false, false, false, false, false, false, false, false, false]) h hD 6 (by as_aux_lemma => kernel_rfl) rfl (by as_aux_lemma => kernel_rfl) (by as_aux_lemma => kernel_rfl) (by as_aux_lemma => kernel_rfl) (fun _ _ _ _ hh => hh) (fun w h => by first | exact r_move h rfl) rfl ?_
    clear hD h a w; intro a w h hD
    refine d_take0 (listed' := #[true, true, true, true, true, true, true, true, false, false, false, false, false, false, false, false, false, false, false, false, false, false, false, false]) h hD 7 (by as_aux_lemma => kernel_rfl) rfl (by as_aux_lemma => kernel_rfl) (by as_aux_lemma => kernel_rfl) (by as_aux_lemma => kernel_rfl) (fun _ _ _ _ hh => hh) (fun w h => by first | exact r_bin h rfl rfl (B.add_i64 (by omega) (by omega))) rfl ?_
    clear hD h a w; intro a w h hD
    refine d_take0 (listed' := #[true, true, true, true, true, true, true, true, true, false, false, false, false, false, false, false, false, false, false, false, false, false, false, false]) h hD 8 (by as_aux_lemma => kernel_rfl) rfl (by as_aux_lemma => kernel_rfl) (by as_aux_lemma => kernel_rfl) (by as_aux_lemma => kernel_rfl) (fun _ _ _ _ hh => hh) (fun w h => by first | exact r_move h rfl) rfl ?_
    clear hD h a w; intro a w h hD
    refine d_take0 (listed' := #[true, true, true, true, true, true, true, true, true, true, false, false, false, false, false, false, false, false, false, false, false, false, false, false]) h hD 9 (by as_aux_lemma => kernel_rfl) rfl (by as_aux_lemma => kernel_rfl) (by as_aux_lemma => kernel_rfl) (by as_aux_lemma => kernel_rfl) (fun _ _ _ _ hh => hh) (fun w h => by first | exact r_move h rfl) rfl ?_
    clear hD h a w; intro a w h hD
    refine d_take0 (listed' := #[true, true, true, true, true, true, true, true, true, true, true, false, false, false, false, false, false, false, false, false, false, false, false, false]) h hD 10 (by as_aux_lemma => kernel_rfl) rfl (by as_aux_lemma => kernel_rfl) (by as_aux_lemma => kernel_rfl) (by as_aux_lemma => kernel_rfl) (fun _ _ _ _ hh => hh) (fun w h => by first | exact r_move h rfl) rfl ?_
    clear hD h a w; intro a w h hD
    refine d_take0 (listed' := #[true, true, true, true, true, true, true, true, true, true, true, true, false, false, false, false, false, false, false, false, false, false, false, false]) h hD 11 (by as_aux_lemma => kernel_rfl) rfl (by as_aux_lemma => kernel_rfl) (by as_aux_lemma => kernel_rfl) (by as_aux_lemma => kernel_rfl) (fun _ _ _ _ hh => hh) (fun w h => by first | exact r_bin h rfl rfl (B.add_i64 (by omega) (by omega))) rfl ?_
    clear hD h a w; intro a w h hD
    refine d_take (listed' := #[true, true, true, true, true, true, true, true, true, true, true, true, true, false, false, false, false, false, false, false, false, false, false, false]) h hD 12 _ (by as_aux_lemma => kernel_rfl) rfl (by as_aux_lemma => kernel_rfl) (by as_aux_lemma => kernel_rfl) (by as_aux_lemma => kernel_rfl) (fun _ _ _ _ hh => hh) h.2 (fun w hw => by first | exact r_elPs ⟨h.1, hw⟩ rfl rfl K.u_S_pack_item K.sz_pack_item hsp (b0 + i) rfl (by omega)) rfl ?_
    clear hD h a w; intro a w h hD
    refine d_take (listed' := #[true, true, true, true, true, true, true, true, true, true, true, true, true, true, false, false, false, false, false, false, false, false, false, false]) h hD 13 _ (by as_aux_lemma => kernel_rfl) rfl (by as_aux_lemma => kernel_rfl) (by as_aux_lemma => kernel_rfl) (by as_aux_lemma => kernel_rfl) (fun _ _ _ _ hh => hh) h.2 (fun w hw => by first | exact r_elM (cells := cellsI) ⟨h.1, hw⟩ rfl K.u_pack_item rfl K.sz_pack_item rfl (Views.own 0 rfl) hy) rfl ?_
    clear hD h a w; intro a w h hD
    refine d_take0 (listed' := #[true, true, true, true, true, true, true, true, true, true, true, true, true, true, true, false, false, false, false, false, false, false, false, false]) h hD 14 (by as_aux_lemma => kernel_rfl) rfl (by as_aux_lemma => kernel_rfl) (by as_aux_lemma => kernel_rfl) (by as_aux_lemma => kernel_rfl) (fun _ _ _ _ hh => hh) (fun w h => by first | exact r_move h rfl) rfl ?_
    clear hD h a w; intro a w h hD
    refine d_take0 (listed' := #[true, true, true, true, true, true, true, true, true, true, true, true, true, true, true, true, false, false, false, false, false, false, false, false]) h hD 15 (by as_aux_lemma => kernel_rfl) rfl (by as_aux_lemma => kernel_rfl) (by as_aux_lemma => kernel_rfl) (by as_aux_lemma => kernel_rfl) (fun _ _ _ _ hh => hh) (fun w h => by first | exact r_move h rfl) rfl ?_
    clear hD h a w; intro a w h hD
    refine d_take0 (listed' := #[true, true, true, true, true, true, true, true, true, true, true, true, true, true, true, true, true, false, false, false, false, false, false, false]) h hD 16 (by as_aux_lemma => kernel_rfl) rfl (by as_aux_lemma => kernel_rfl) (by as_aux_lemma => kernel_rfl) (by as_aux_lemma => kernel_rfl) (fun _ _ _ _ hh => hh) (fun w h => by first | exact r_move h rfl) rfl ?_
    clear hD h a w; intro a w h hD
    refine d_take0 (listed' := #[true, true, true, true, true, true, true, true, true, true, true, true, true, true, true, true, true, true, false, false, false, false, false, false]) h hD 17 (by as_aux_lemma => kernel_rfl) rfl (by as_aux_lemma => kernel_rfl) (by as_aux_lemma => kernel_rfl) (by as_aux_lemma => kernel_rfl) (fun _ _ _ _ hh => hh) (fun w h => by first | exact r_bin h rfl rfl (B.add_i64 (by omega) (by omega))) rfl ?_
    clear hD h a w; intro a w h hD
    refine d_take (listed' := #[true, true, true, true, true, true, true, true, true, true, true, true, true, true, true, true, true, true, true, false, false, false, false, false]) h hD 18 (F) (by as_aux_lemma => kernel_rfl) rfl (by as_aux_lemma => kernel_rfl) (by as_aux_lemma => kernel_rfl) (by as_aux_lemma => kernel_rfl) (fun _ _ _ _ hh => hh) (by first | exact h.2 | exact h.2.drop 1 | exact h.2.drop 2 | exact h.2.drop 3 | exact h.2.drop 4 | exact h.2.drop 5 | exact h.2.drop 6 | exact h.2.drop 7) (fun w hw => by first | exact r_elPs ⟨h.1, hw⟩ rfl rfl K.u_S_pack_item K.sz_pack_item hsp (a0 + i) rfl (by omega)) rfl ?_
    clear hD h a w; intro a w h hD
    refine d_take (listed' := #[true, true, true, true, true, true, true, true, true, true, true, true, true, true, true, true, true, true, true, true, false, false, false, false]) h hD 19 _ (by as_aux_lemma => kernel_rfl) rfl (by as_aux_lemma => kernel_rfl) (by as_aux_lemma => kernel_rfl) (by as_aux_lemma => kernel_rfl) (fun _ _ _ _ hh => hh) h.2 (fun w hw => by first | exact r_elM (cells := cellsI) ⟨h.1, hw⟩ rfl K.u_pack_item rfl K.sz_pack_item rfl (Views.own 0 rfl) hx) rfl ?_
    clear hD h a w; intro a w h hD
    refine d_take (listed' := #[true, true, true, true, true, true, true, true, true, true, true, true, true, true, true, true, true, true, true, true, true, false, false, false]) h hD 20 (F) (by as_aux_lemma => kernel_rfl) rfl (by as_aux_lemma => kernel_rfl) (by as_aux_lemma => kernel_rfl) (by as_aux_lemma => kernel_rfl) (fun _ _ _ _ hh => hh) (by first | exact h.2 | exact h.2.drop 1 | exact h.2.drop 2 | exact h.2.drop 3 | exact h.2.drop 4 | exact h.2.drop 5 | exact h.2.drop 6 | exact h.2.drop 7) (fun w hw => by first | exact r_elPs ⟨h.1, hw⟩ rfl rfl K.u_S_pack_item K.sz_pack_item hsp (a0 + i) rfl (by omega)) rfl ?_
    clear hD h a w; intro a w h hD
    refine d_only (listed' := #[true, true, true, true, true, true, true, true, true, true, true, true, true, true, true, true, true, true, true, true, true, true, false, false]) 21 [false, false, true, false, false] (by as_aux_lemma => kernel_rfl) rfl rfl (by as_aux_lemma => kernel_rfl) (by as_aux_lemma => kernel_rfl) ?_
    first
        | (refine op_storeR h rfl rfl K.sz_pack_item 0 rfl (by first | omega | (simp only [List.length_cons, List.length_nil]; omega) | (simp; done) | (simp; omega)) ?_)
        | (refine op_storeR h rfl rfl K.sz_pack_item 1 rfl (by first | omega | (simp only [List.length_cons, List.length_nil]; omega) | (simp; done) | (simp; omega)) ?_)
        | (refine op_storeR h rfl rfl K.sz_pack_item 2 rfl (by first | omega | (simp only [List.length_cons, List.length_nil]; omega) | (simp; done) | (simp; omega)) ?_)
        | (refine op_storeR h rfl rfl K.sz_pack_item 3 rfl (by first | omega | (simp only [List.length_cons, List.length_nil]; omega) | (simp; done) | (simp; omega)) ?_)
        | (refine op_storeR h rfl rfl K.sz_pack_item 4 rfl (by first | omega | (simp only [List.length_cons, List.length_nil]; omega) | (simp; done) | (simp; omega)) ?_)
        | (refine op_storeR h rfl rfl K.sz_pack_item 5 rfl (by first | omega | (simp only [List.length_cons, List.length_nil]; omega) | (simp; done) | (simp; omega)) ?_)
    clear hD h a w; intro a w h
    (try simp only [List.set_cons_zero, List.set_cons_succ] at h)
    refine d_pay (Paid.cons (by first | exact h.2 | exact h.2.drop 1 | exact h.2.drop 2 | exact h.2.drop 3 | exact h.2.drop 4 | exact h.2.drop 5 | exact h.2.drop 6 | exact h.2.drop 7) (Paid.nil)) (fun hD => ?_)
    refine d_take (listed' := #[true, true, true, true, true, true, true, true, true, true, true, true, true, true, true, true, true, true, true, true, true, true, true, false]) h hD 22 _ (by as_aux_lemma => kernel_rfl) rfl (by as_aux_lemma => kernel_rfl) (by as_aux_lemma => kernel_rfl) (by as_aux_lemma => kernel_rfl) (fun _ _ _ _ hh => hh) h.2 (fun w hw => by first | exact r_elPs ⟨h.1, hw⟩ rfl rfl K.u_S_pack_item K.sz_pack_item hsp (b0 + i) rfl (by omega)) rfl ?_
    clear hD h a w; intro a w h hD
    refine d_only (listed' := #[true, true, true, true, true, true, true, true, true, true, true, true, true, true, true, true, true, true, true, true, true, true, true, true]) 23 [false, false] (by as_aux_lemma => kernel_rfl) rfl rfl (by as_aux_lemma => kernel_rfl) (by as_aux_lemma => kernel_rfl) ?_
    first
        | (refine op_storeR h rfl rfl K.sz_pack_item 0 rfl (by first | omega | (simp only [List.length_cons, List.length_nil]; omega) | (simp; done) | (simp; omega)) ?_)
        | (refine op_storeR h rfl rfl K.sz_pack_item 1 rfl (by first | omega | (simp only [List.length_cons, List.length_nil]; omega) | (simp; done) | (simp; omega)) ?_)
        | (refine op_storeR h rfl rfl K.sz_pack_item 2 rfl (by first | omega | (simp only [List.length_cons, List.length_nil]; omega) | (simp; done) | (simp; omega)) ?_)
        | (refine op_storeR h rfl rfl K.sz_pack_item 3 rfl (by first | omega | (simp only [List.length_cons, List.length_nil]; omega) | (simp; done) | (simp; omega)) ?_)
        | (refine op_storeR h rfl rfl K.sz_pack_item 4 rfl (by first | omega | (simp only [List.length_cons, List.length_nil]; omega) | (simp; done) | (simp; omega)) ?_)
        | (refine op_storeR h rfl rfl K.sz_pack_item 5 rfl (by first | omega | (simp only [List.length_cons, List.length_nil]; omega) | (simp; done) | (simp; omega)) ?_)
    clear hD h a w; intro a w h
    (try simp only [List.set_cons_zero, List.set_cons_succ] at h)
    refine d_pay (Paid.nil) (fun hD => ?_)
    refine d_done (by kernel_rfl) ?_
    clear hD
    refine b_normal ?_
    refine c_then ?_
    refine c_region ?_
    refine wv h (r_move h rfl) rfl ?_
    clear h a w; intro a w h
    refine wv h (r_bin h rfl rfl (B.add_i64 (by omega) (by omega))) rfl ?_
    clear h a w; intro a w h
    refine wv h (r_assign h rfl) rfl ?_
    clear h a w; intro a w h
    refine wnil ?_
    have e : (cur.set (a0 + i) y).set (b0 + i) x = swpN l a0 b0 (i + 1) := by rw [swpN, ← hcur, swp_eq hx hy]
    rw [e] at h
    exact ⟨i + 1, h.keep [0, 1, 2, 3, 10], ht1, by omega⟩
   ·
    refine c_exit ?_
    refine e_then ?_
    refine e_then ?_
    refine e_here ?_
    obtain rfl : i = n := by omega
    exact end0 h rfl ⟨(), rfl, h.2, trivial⟩
theorem cut_take (l : List ItV) (k : Nat) : l = l.take k ++ l.drop k := (List.take_append_drop k l).symm
theorem sl_rotate (s w : World) (v gv : Value) (P0 X0 Y0 Q0 : List ItV) (a0 m b0 : Nat) (F : List HItem) (hx0 : 0 < X0.length) (hy0 : 0 < Y0.length) (ha : a0 = P0.length) (hm : m = P0.length + X0.length) (hb : b0 = m + Y0.length)
    (hl : (P0 ++ X0 ++ Y0 ++ Q0).length ≤ 4000000) (hs : Sat s w (OwnM 33 cellsI v (P0 ++ X0 ++ Y0 ++ Q0) :: F)) :
    Calls P n_slices_rotateCmpFunc_pack_item #[v, .int .i64 (a0 : Int), .int .i64 (m : Int), .int .i64 (b0 : Int), gv] w (Ret s (fun _ : Unit => .tuple #[]) (fun _ => OwnM 33 cellsI v (P0 ++ Y0 ++ X0 ++ Q0) :: F) (fun _ => True)) := by
  simp only [List.length_append] at hl
  refine enter K.fn_slices_rotateCmpFunc_pack_item rfl K.nt_slices_rotateCmpFunc_pack_item rfl hs ?_
  clear hs w; intro a w h
  refine c_seq (c_region ?_)
  refine wv h (r_move h rfl) rfl ?_
  clear h a w; intro a w h
  refine wv h (r_move h rfl) rfl ?_
  clear h a w; intro a w h
  refine wv h (r_bin h rfl rfl (B.sub_i64 (by omega) (by omega))) rfl ?_
  clear h a w; intro a w h
  rw [show ((m : Int) - (a0 : Int)) = (X0.length : Int) by omega] at h
  refine wv h (r_assign h rfl) rfl ?_
  clear h a w; intro a w h
  refine wnil (c_then ?_)
  refine c_seq (c_region ?_)
  refine wv h (r_move h rfl) rfl ?_
  clear h a w; intro a w h
  refine wv h (r_move h rfl) rfl ?_
  clear h a w; intro a w h
  refine wv h (r_bin h rfl rfl (B.sub_i64 (by omega) (by omega))) rfl ?_
  clear h a w; intro a w h
  rw [show ((b0 : Int) - (m : Int)) = (Y0.length : Int) by omega] at h
  refine wv h (r_assign h rfl) rfl ?_
  clear h a w; intro a w h
  refine wnil (c_then ?_)
  refine c_seq ?_
  refine c_block ?_
  refine c_loop (X := List ItV × List ItV × List ItV × List ItV) (fun z => [(0, v), (2, .int .i64 (m : Int)), (4, gv), (10, .int .i64 (z.2.1.length : Int)), (11, .int .i64 (z.2.2.1.length : Int))]) (fun z => OwnM 33 cellsI v (z.1 ++ z.2.1 ++ z.2.2.1 ++ z.2.2.2) :: F)
    (fun z => 0 < z.2.1.length ∧ 0 < z.2.2.1.length ∧ z.1.length + z.2.1.length = m ∧ z.1.length + z.2.1.length + z.2.2.1.length + z.2.2.2.length ≤ 4000000 ∧ z.1 ++ z.2.2.1 ++ z.2.1 ++ z.2.2.2 = P0 ++ Y0 ++ X0 ++ Q0) (fun z => z.2.1.length + z.2.2.1.length) (P0, X0, Y0, Q0) (h.keep [0, 2, 4, 10, 11]) ⟨hx0, hy0, hm.symm, by simp only; omega, rfl⟩ ?_
  clear h a w; intro z a w hz h
  obtain ⟨P1, X1, Y1, Q1⟩ := z
  obtain ⟨hx1, hy1, hm1, hl1, ht⟩ := hz
  simp only at hx1 hy1 hm1 hl1 ht h
  as_aux_lemma =>
   refine c_seq ?_
   refine c_seq (c_region ?_)
   refine wv h (r_move h rfl) rfl ?_
   clear h a w; intro a w h
   refine wv h (r_move h rfl) rfl ?_
   clear h a w; intro a w h
   refine wv h (r_bin h rfl rfl (B.neq_int)) rfl ?_
   clear h a w; intro a w h
   refine wnil (c_then ?_)
   refine c_condP (p := X1.length ≠ Y1.length) h rfl (by simp; omega) (fun ht1 => ?_) (fun ht1 => ?_)
   ·
    refine c_skip ?_
    refine c_then ?_
    refine c_block ?_
    refine c_seq (c_region ?_)
    refine wv h (r_move h rfl) rfl ?_
    clear h a w; intro a w h
    refine wv h (r_move h rfl) rfl ?_
    clear h a w; intro a w h
    refine wv h (r_bin h rfl rfl (B.gtr_int)) rfl ?_
    clear h a w; intro a w h
    refine wnil (c_then ?_)
    refine c_condP (p := Y1.length < X1.length) h rfl (by simp) (fun ht2 => ?_) (fun ht2 => ?_)
    ·
     obtain ⟨U, hU⟩ : ∃ U, U = X1.take Y1.length := ⟨_, rfl⟩
     obtain ⟨V, hV⟩ : ∃ V, V = X1.drop Y1.length := ⟨_, rfl⟩
     have hUV : X1 = U ++ V := by rw [hU, hV, List.take_append_drop]
     have hUl : U.length = Y1.length := by rw [hU, List.length_take]; omega
     have hXl : X1.length = U.length + V.length := by rw [hUV, List.length_append]
     have hsw := swpN_all P1 U V Y1 Q1 hUl
     rw [hUl, show P1.length + Y1.length + V.length = m by omega, List.append_assoc P1 U V, ← hUV] at hsw
     as_aux_lemma =>
      refine c_seq (c_region ?_)
      refine wv h (r_move h rfl) rfl ?_
      clear h a w; intro a w h
      refine wv h (r_move h rfl) rfl ?_
      clear h a w; intro a w h
      refine wv h (r_move h rfl) rfl ?_
      clear h a w; intro a w h
      refine wv h (r_bin h rfl rfl (B.sub_i64 (by omega) (by omega))) rfl ?_
      clear h a w; intro a w h
      rw [show ((m : Int) - (X1.length : Int)) = (P1.length : Int) by omega] at h
      refine wv h (r_move h rfl) rfl ?_
      clear h a w; intro a w h
      refine wv h (r_move h rfl) rfl ?_
      clear h a w; intro a w h
      refine wv h (r_move h rfl) rfl ?_
      clear h a w; intro a w h
      refine wl rfl (op_call h rfl K.go_slices_swapRangeCmpFunc_pack_item (sl_swapRange s _ v gv (P1 ++ X1 ++ Y1 ++ Q1) P1.length m Y1.length _ (by omega) (by simp only [List.length_append]; omega) (by simp only [List.length_append]; omega) h.2) rfl ?_)
      clear h a w; intro z31 a w hz31 h
      (try simp only [List.set_cons_zero, List.set_cons_succ] at h)
      rw [hsw] at h
      refine wnil (c_then ?_)
      refine c_region ?_
      refine wv h (r_move h rfl) rfl ?_
      clear h a w; intro a w h
      refine wv h (r_move h rfl) rfl ?_
      clear h a w; intro a w h
      refine wv h (r_bin h rfl rfl (B.sub_i64 (by omega) (by omega))) rfl ?_
      clear h a w; intro a w h
      rw [show ((X1.length : Int) - (Y1.length : Int)) = (V.length : Int) by omega] at h
      refine wv h (r_assign h rfl) rfl ?_
      clear h a w; intro a w h
      refine wnil ?_
      refine b_normal ?_
      refine ⟨(P1 ++ Y1, V, U, Q1), ?_, ⟨by simp only; omega, by simp only; omega, by simp only [List.length_append]; omega, by simp only [List.length_append]; omega, ?_⟩, by simp only; omega⟩
      · have q := h.keep [0, 2, 4, 10, 11]
        show St 58 s a w [(0, v), (2, _), (4, gv), (10, .int .i64 (V.length : Int)), (11, .int .i64 (U.length : Int))] _
        rw [hUl]; exact q
      · simp only; rw [← ht, hUV]; simp
    ·
     obtain ⟨V, hV⟩ : ∃ V, V = Y1.take (Y1.length - X1.length) := ⟨_, rfl⟩
     obtain ⟨W, hW⟩ : ∃ W, W = Y1.drop (Y1.length - X1.length) := ⟨_, rfl⟩
     have hVW : Y1 = V ++ W := by rw [hV, hW, List.take_append_drop]
     have hWl : W.length = X1.length := by rw [hW, List.length_drop]; omega
     have hYl : Y1.length = V.length + W.length := by rw [hVW, List.length_append]
     have hsw := swpN_all P1 X1 V W Q1 hWl.symm
     rw [show P1.length + X1.length + V.length = m + V.length by omega, List.append_assoc (P1 ++ X1) V W, ← hVW] at hsw
     refine c_seq (c_region ?_)
     refine wv h (r_move h rfl) rfl ?_
     clear h a w; intro a w h
     refine wv h (r_move h rfl) rfl ?_
     clear h a w; intro a w h
     refine wv h (r_move h rfl) rfl ?_
     clear h a w; intro a w h
     refine wv h (r_bin h rfl rfl (B.sub_i64 (by omega) (by omega))) rfl ?_
     clear h a w; intro a w h
     rw [show ((m : Int) - (X1.length : Int)) = (P1.length : Int) by omega] at h
     refine wv h (r_move h rfl) rfl ?_
     clear h a w; intro a w h
     refine wv h (r_move h rfl) rfl ?_
     clear h a w; intro a w h
     refine wv h (r_bin h rfl rfl (B.add_i64 (by omega) (by omega))) rfl ?_
     clear h a w; intro a w h
     refine wv h (r_move h rfl) rfl ?_
     clear h a w; intro a w h
     refine wv h (r_bin h rfl rfl (B.sub_i64 (by omega) (by omega))) rfl ?_
     clear h a w; intro a w h
     rw [show ((m : Int) + (Y1.length : Int) - (X1.length : Int)) = ((m + V.length : Nat) : Int) by omega] at h
     refine wv h (r_move h rfl) rfl ?_
     clear h a w; intro a w h
     refine wv h (r_move h rfl) rfl ?_
     clear h a w; intro a w h
     refine wl rfl (op_call h rfl K.go_slices_swapRangeCmpFunc_pack_item (sl_swapRange s _ v gv (P1 ++ X1 ++ Y1 ++ Q1) P1.length (m + V.length) X1.length _ (by omega) (by simp only [List.length_append]; omega) (by simp only [List.length_append]; omega) h.2) rfl ?_)
     clear h a w; intro z46 a w hz46 h
     (try simp only [List.set_cons_zero, List.set_cons_succ] at h)
     rw [hsw] at h
     refine wnil (c_then ?_)
     refine c_region ?_
     refine wv h (r_move h rfl) rfl ?_
     clear h a w; intro a w h
     refine wv h (r_move h rfl) rfl ?_
     clear h a w; intro a w h
     refine wv h (r_bin h rfl rfl (B.sub_i64 (by omega) (by omega))) rfl ?_
     clear h a w; intro a w h
     rw [show ((Y1.length : Int) - (X1.length : Int)) = (V.length : Int) by omega] at h
     refine wv h (r_assign h rfl) rfl ?_
     clear h a w; intro a w h
     refine wnil ?_
     refine b_normal ?_
     refine ⟨(P1, W, V, X1 ++ Q1), ?_, ⟨by simp only; omega, by simp only; omega, by simp only; omega, by simp only [List.length_append]; omega, ?_⟩, by simp only; omega⟩
     · have q := h.keep [0, 2, 4, 10, 11]
       show St 58 s a w [(0, v), (2, _), (4, gv), (10, .int .i64 (W.length : Int)), (11, .int .i64 (V.length : Int))] (OwnM 33 cellsI v (P1 ++ W ++ V ++ (X1 ++ Q1)) :: F)
       rw [hWl, ← List.append_assoc]; exact q
     · simp only; rw [← ht, hVW]; simp
   ·
    have hxy : X1.length = Y1.length := by omega
    have hsw := swpN_all P1 X1 [] Y1 Q1 hxy
    rw [show P1.length + X1.length + ([] : List ItV).length = m by simp; omega, List.append_nil, List.append_nil, ht] at hsw
    refine c_exit ?_
    refine e_then ?_
    refine e_then ?_
    refine e_here ?_
    refine c_then ?_
    refine c_region ?_
    refine wv h (r_move h rfl) rfl ?_
    clear h a w; intro a w h
    refine wv h (r_move h rfl) rfl ?_
    clear h a w; intro a w h
    refine wv h (r_move h rfl) rfl ?_
    clear h a w; intro a w h
    refine wv h (r_bin h rfl rfl (B.sub_i64 (by omega) (by omega))) rfl ?_
    clear h a w; intro a w h
    rw [show ((m : Int) - (X1.length : Int)) = (P1.length : Int) by omega] at h
    refine wv h (r_move h rfl) rfl ?_
    clear h a w; intro a w h
    refine wv h (r_move h rfl) rfl ?_
    clear h a w; intro a w h
    refine wv h (r_move h rfl) rfl ?_
    clear h a w; intro a w h
    refine wl rfl (op_call h rfl K.go_slices_swapRangeCmpFunc_pack_item (sl_swapRange s _ v gv (P1 ++ X1 ++ Y1 ++ Q1) P1.length m X1.length _ (by omega) (by simp only [List.length_append]; omega) (by simp only [List.length_append]; omega) h.2) rfl ?_)
    clear h a w; intro z57 a w hz57 h
    (try simp only [List.set_cons_zero, List.set_cons_succ] at h)
    rw [hsw] at h
    refine wnil ?_
    exact end0 h rfl ⟨(), rfl, h.2, trivial⟩
end Go.Proofs.K

/- Stable sorting of items: by putting in. -/
namespace Go.Proofs.K
open Go.Sl
attribute [local irreducible] Go.Sl.Own Go.Sl.Blk Go.Sl.Sep Go.Sl.Ex Go.Sl.Fact
theorem sl_insertionSort (s w : World) (v : Value) (P0 M Q0 : List ItV) (a0 b0 : Nat) (F : List HItem) (ha : a0 = P0.length) (hb : b0 = P0.length + M.length) (hl : (P0 ++ M ++ Q0).length ≤ 4000000) (hs : Sat s w (OwnM 33 cellsI v (P0 ++ M ++ Q0) :: F)) :
    Calls P n_slices_insertionSortCmpFunc_pack_item #[v, .int .i64 (a0 : Int), .int .i64 (b0 : Int), cmpV] w (Ret s (fun _ : Unit => .tuple #[]) (fun _ => OwnM 33 cellsI v (P0 ++ isort M ++ Q0) :: F) (fun _ => True)) := by
  simp only [List.length_append] at hl
  refine enter K.fn_slices_insertionSortCmpFunc_pack_item rfl K.nt_slices_insertionSortCmpFunc_pack_item rfl hs ?_
  clear hs w; intro a w h
  unfold cmpV at h
  refine c_seq (c_region ?_)
  refine wv h (r_move h rfl) rfl ?_
  clear h a w; intro a w h
  refine wv h (r_bin h rfl rfl (B.add_i64 (by omega) (by omega))) rfl ?_
  clear h a w; intro a w h
  refine wv h (r_assign h rfl) rfl ?_
  clear h a w; intro a w h
  refine wnil (c_then ?_)
  refine c_block ?_
  refine c_loop (X := Nat) (fun k => [(0, v), (1, .int .i64 (a0 : Int)), (2, .int .i64 (b0 : Int)), (3, .func (.func n_pack_sorted_1) #[] #[]), (8, .int .i64 ((P0.length + k : Nat) : Int))]) (fun k => OwnM 33 cellsI v (P0 ++ (isort (M.take k) ++ M.drop k) ++ Q0) :: F)
    (fun k => 1 ≤ k) (fun k => M.length - k) 1 (by
      have e : isort (M.take 1) ++ M.drop 1 = M := by cases M with
        | nil => rfl
        | cons x l => rfl
      rw [e]
      have q := h.keep [0, 1, 2, 3, 8]
      rw [show ((a0 : Int) + 1) = ((P0.length + 1 : Nat) : Int) by omega] at q
      exact q) (Nat.le_refl _) ?_
  clear h a w; intro k a w hk h
  as_aux_lemma =>
   refine c_seq ?_
   refine c_seq (c_region ?_)
   refine wv h (r_move h rfl) rfl ?_
   clear h a w; intro a w h
   refine wv h (r_move h rfl) rfl ?_
   clear h a w; intro a w h
   refine wv h (r_bin h rfl rfl (B.lss_int)) rfl ?_
   clear h a w; intro a w h
   refine wnil (c_then ?_)
   refine c_condP (p := k < M.length) h rfl (by simp; omega) (fun ht1 => ?_) (fun ht1 => ?_)
   ·
    obtain ⟨x, hx⟩ : ∃ x, M[k]? = some x := ⟨_, List.getElem?_eq_getElem ht1⟩
    have dM : M.drop k = x :: M.drop (k + 1) := by rw [List.drop_eq_getElem_cons ht1]; congr 1; exact (List.getElem?_eq_some_iff.1 hx).2
    have tM : M.take (k + 1) = M.take k ++ [x] := by rw [List.take_add_one, hx]; rfl
    obtain ⟨S, hS⟩ : ∃ S, S = isort (M.take k) := ⟨_, rfl⟩
    have hSl : S.length = k := by rw [hS, isort_len, List.length_take]; omega
    have e0 : P0 ++ (isort (M.take k) ++ M.drop k) ++ Q0 = mvL P0 S (M.drop (k + 1) ++ Q0) x k := by
      have tS : S.take k = S := List.take_of_length_le (by omega)
      have dS : S.drop k = [] := List.drop_eq_nil_of_le (by omega)
      rw [mvL, ← hS, dM, tS, dS]; simp
    rw [e0] at h
    have hRl : (M.drop (k + 1) ++ Q0).length + k + 1 = M.length + Q0.length := by simp; omega
    obtain ⟨R, hR⟩ : ∃ R, R = M.drop (k + 1) ++ Q0 := ⟨_, rfl⟩
    rw [← hR] at h hRl
    refine c_skip ?_
    refine c_then ?_
    refine c_seq ?_
    refine c_block ?_
    refine c_seq (c_region ?_)
    refine wv h (r_move h rfl) rfl ?_
    clear h a w; intro a w h
    refine wv h (r_assign h rfl) rfl ?_
    clear h a w; intro a w h
    refine wnil (c_then ?_)
    refine c_block ?_
    refine c_loop (X := Nat) (fun q => [(0, v), (1, .int .i64 (a0 : Int)), (2, .int .i64 (b0 : Int)), (3, .func (.func n_pack_sorted_1) #[] #[]), (8, .int .i64 ((P0.length + k : Nat) : Int)), (9, .int .i64 ((P0.length + q : Nat) : Int))]) (fun q => OwnM 33 cellsI v (mvL P0 S R x q) :: F)
      (fun q => q ≤ k ∧ ∀ y, S[q]? = some y → lt x y = true) (fun q => q) k (h.keep [0, 1, 2, 3, 8, 9]) ⟨Nat.le_refl _, fun y hy => by rw [List.getElem?_eq_none (by omega)] at hy; cases hy⟩ ?_
    clear h a w; intro q a w hq h
    obtain ⟨hq1, hq2⟩ := hq
    have hcl := mvL_len P0 S R x q
    have hgx := mvL_get P0 S R x q (by omega)
    obtain ⟨cur, hcur⟩ : ∃ cur, cur = mvL P0 S R x q := ⟨_, rfl⟩
    rw [← hcur] at h hcl hgx
    have hgt : decide (((P0.length + q : Nat) : Int) > (a0 : Int)) = decide (0 < q) := decide_eq_decide.2 (by omega)
    obtain ⟨z, hz⟩ : ∃ z, z = S.getD (q - 1) x := ⟨_, rfl⟩
    have hz1 : 0 < q → S[q - 1]? = some z := fun h0 => by rw [hz, List.getD_eq_getElem?_getD, List.getElem?_eq_getElem (by omega)]; rfl
    have hz2 : 0 < q → cur[P0.length + (q - 1)]? = some z := fun h0 => by
      obtain ⟨q', rfl⟩ : ∃ q', q = q' + 1 := ⟨q - 1, by omega⟩
      rw [hcur]; exact mvL_prev P0 S R x z q' (by have := hz1 h0; simpa using this)
    have hsp : Shp v cur.length := Sat.shp h.2 (by omega)
    as_aux_lemma =>
     refine c_seq ?_
     refine c_seq (c_draw K.mixed (by kernel_rfl) h ?_)
     clear h a w; intro a hE
     refine qv hE (fun w hw => r_move ⟨hE, hw⟩ rfl) rfl ?_
     clear hE a; intro a hE
     refine qv hE (fun w hw => r_move ⟨hE, hw⟩ rfl) rfl ?_
     clear hE a; intro a hE
     refine qv hE (fun w hw => r_bin ⟨hE, hw⟩ rfl rfl (B.gtr_int)) rfl ?_
     clear hE a; intro a hE
     rw [hgt] at hE
     refine qv hE (fun w hw => r_move ⟨hE, hw⟩ rfl) rfl ?_
     clear hE a; intro a hE
     refine qvG hE (by first | exact .t rfl | exact .f rfl | exact .gt rfl | exact .gf rfl) (fun hg w hw => by (try simp only [↓gval_on hg, ↓gval_and hg] at hE); (have hg2 := hg; (try simp only [Bool.and_eq_true, Bool.or_eq_true, Bool.not_eq_true', decide_eq_true_eq, decide_eq_false_iff_not] at hg2)); first | exact r_move ⟨hE, hw⟩ rfl) rfl ?_
     clear hE a; intro a hE
     refine qvG hE (by first | exact .t rfl | exact .f rfl | exact .gt rfl | exact .gf rfl) (fun hg w hw => by (try simp only [↓gval_on hg, ↓gval_and hg] at hE); (have hg2 := hg; (try simp only [Bool.and_eq_true, Bool.or_eq_true, Bool.not_eq_true', decide_eq_true_eq, decide_eq_false_iff_not] at hg2)); first | exact r_move ⟨hE, hw⟩ rfl) rfl ?_
     clear hE a; intro a hE
     refine qvG hE (by first | exact .t rfl | exact .f rfl | exact .gt rfl | exact .gf rfl) (fun hg w hw => by (try simp only [↓gval_on hg, ↓gval_and hg] at hE); (have hg2 := hg; (try simp only [Bool.and_eq_true, Bool.or_eq_true, Bool.not_eq_true', decide_eq_true_eq, decide_eq_false_iff_not] at hg2)); first | exact r_move ⟨hE, hw⟩ rfl) rfl ?_
     clear hE a; intro a hE
     refine qvG hE (by first | exact .t rfl | exact .f rfl | exact .gt rfl | exact .gf rfl) (fun hg w hw => by (try simp only [↓gval_on hg, ↓gval_and hg] at hE); exact r_elPs ⟨hE, hw⟩ rfl rfl K.u_S_pack_item K.sz_pack_item hsp (P0.length + q) rfl (by omega)) rfl ?_
     clear hE a; intro a hE
     refine qvG hE (by first | exact .t rfl | exact .f rfl | exact .gt rfl | exact .gf rfl) (fun hg w hw => by (try simp only [↓gval_on hg, ↓gval_and hg] at hE); exact r_elM (cells := cellsI) ⟨hE, hw⟩ rfl K.u_pack_item rfl K.sz_pack_item rfl (Views.own 0 rfl) hgx) rfl ?_
     clear hE a; intro a hE
     refine qvG hE (by first | exact .t rfl | exact .f rfl | exact .gt rfl | exact .gf rfl) (fun hg w hw => by (try simp only [↓gval_on hg, ↓gval_and hg] at hE); (have hg2 := hg; (try simp only [Bool.and_eq_true, Bool.or_eq_true, Bool.not_eq_true', decide_eq_true_eq, decide_eq_false_iff_not] at hg2)); first | exact r_move ⟨hE, hw⟩ rfl) rfl ?_
     clear hE a; intro a hE
     refine qvG hE (by first | exact .t rfl | exact .f rfl | exact .gt rfl | exact .gf rfl) (fun hg w hw => by (try simp only [↓gval_on hg, ↓gval_and hg] at hE); (have hg2 := hg; (try simp only [Bool.and_eq_true, Bool.or_eq_true, Bool.not_eq_true', decide_eq_true_eq, decide_eq_false_iff_not] at hg2)); first | exact r_move ⟨hE, hw⟩ rfl) rfl ?_
     clear hE a; intro a hE
     refine qvG hE (by first | exact .t rfl | exact .f rfl | exact .gt rfl | exact .gf rfl) (fun hg w hw => by (try simp only [↓gval_on hg, ↓gval_and hg] at hE); (have hg2 := hg; (try simp only [Bool.and_eq_true, Bool.or_eq_true, Bool.not_eq_true', decide_eq_true_eq, decide_eq_false_iff_not] at hg2)); first | exact r_bin ⟨hE, hw⟩ rfl rfl (B.sub_i64 (by omega) (by omega))) rfl ?_
     clear hE a; intro a hE
     refine qvG hE (by first | exact .t rfl | exact .f rfl | exact .gt rfl | exact .gf rfl) (fun hg w hw => by have h0 := of_decide_eq_true hg; (try simp only [↓gval_on hg, ↓gval_and hg] at hE); exact r_elPs ⟨hE, hw⟩ rfl rfl K.u_S_pack_item K.sz_pack_item hsp (P0.length + (q - 1)) (by omega) (by omega)) rfl ?_
     clear hE a; intro a hE
     refine qvG hE (by first | exact .t rfl | exact .f rfl | exact .gt rfl | exact .gf rfl) (fun hg w hw => by have h0 := of_decide_eq_true hg; (try simp only [↓gval_on hg, ↓gval_and hg] at hE); exact r_elM (cells := cellsI) ⟨hE, hw⟩ rfl K.u_pack_item rfl K.sz_pack_item rfl (Views.own 0 rfl) (hz2 h0)) rfl ?_
     clear hE a; intro a hE
     refine q_callVG hE (by first | exact .t rfl | exact .f rfl | exact .gt rfl | exact .gf rfl) (fs := #[]) (cs := #[]) K.go_pack_sorted_1 (fun hg => by (try simp only [↓gval_on hg, ↓gval_and hg] at hE); exact ⟨_, [itV x, itV z], hE, rfl, rfl, fun w hw => srt_call s w x z _ hw⟩) rfl ?_
     clear hE a; intro a hE
     refine qvG hE (by first | exact .t rfl | exact .f rfl | exact .gt rfl | exact .gf rfl) (fun hg w hw => by (try simp only [↓gval_on hg, ↓gval_and hg] at hE); (have hg2 := hg; (try simp only [Bool.and_eq_true, Bool.or_eq_true, Bool.not_eq_true', decide_eq_true_eq, decide_eq_false_iff_not] at hg2)); first | exact r_bin ⟨hE, hw⟩ rfl rfl (B.lss_int)) rfl ?_
     clear hE a; intro a hE
     rw [cmp_lt] at hE
     first
          | (refine qv hE (fun w hw => r_pickA ⟨hE, hw⟩ rfl rfl rfl) rfl ?_)
          | (refine qv hE (fun w hw => r_pickO ⟨hE, hw⟩ rfl rfl rfl) rfl ?_)
          | (refine qv hE (fun w hw => r_pick_true ⟨hE, hw⟩ rfl rfl) rfl ?_)
          | (refine qv hE (fun w hw => r_pick_false ⟨hE, hw⟩ rfl rfl) rfl ?_)
          | (refine qv hE (fun w hw => r_pick ⟨hE, hw⟩ rfl rfl rfl) rfl ?_)
     clear hE a; intro a hE
     refine qnil hE ?_
     clear hE a; intro a w h
     refine c_then ?_
     refine c_condP (p := 0 < q ∧ lt x z = true) h rfl (by simp) (fun ht2 => ?_) (fun ht2 => ?_)
     ·
      obtain ⟨q', rfl⟩ : ∃ q', q = q' + 1 := ⟨q - 1, by omega⟩
      have hzq : S[q']? = some z := by have := hz1 (by omega); simpa using this
      have hzc : cur[P0.length + q']? = some z := by have := hz2 (by omega); simpa using this
      refine c_skip ?_
      refine c_then ?_
      refine c_seq ?_
      refine c_block ?_
      refine c_drawn 18 K.mixed rfl h ?_
      clear h a w; intro a w h
      have hD : Paid s w [] := Paid.nil
      refine d_take0 (listed' := #[true, false, false, false, false, false, false, false, false, false, false, false, false, false, false, false, false, false]) h hD 0 (by as_aux_lemma => kernel_rfl) rfl (by as_aux_lemma => kernel_rfl) (by as_aux_lemma => kernel_rfl) (by as_aux_lemma => kernel_rfl) (fun _ _ _ _ hh => hh) (fun w h => by first | exact r_move h rfl) rfl ?_
      clear hD h a w; intro a w h hD
      refine d_take0 (listed' := #[true, true, false, false, false, false, false, false, false, false, false, false, false, false, false, false, false, false]) h hD 1 (by as_aux_lemma => kernel_rfl) rfl (by as_aux_lemma => kernel_rfl) (by as_aux_lemma => kernel_rfl) (by as_aux_lemma => kernel_rfl) (fun _ _ _ _ hh => hh) (fun w h => by first | exact r_move h rfl) rfl ?_
      clear hD h a w; intro a w h hD
      refine d_take0 (listed' := #[true, true, true, false, false, false, false, false, false, false, false, false, false, false, false, false, false, false]) h hD 2 (by as_aux_lemma => kernel_rfl) rfl (by as_aux_lemma => kernel_rfl) (by as_aux_lemma => kernel_rfl) (by as_aux_lemma => kernel_rfl) (fun _ _ _ _ hh => hh) (fun w h => by first | exact r_move h rfl) rfl ?_
      clear hD h a w; intro a w h hD
      refine d_take0 (listed' := #[true, true, true, true, false, false, false, false, false, false, false, false, false, false, false, false, false, false]) h hD 3 (by as_aux_lemma => kernel_rfl) rfl (by as_aux_lemma => kernel_rfl) (by as_aux_lemma => kernel_rfl) (by as_aux_lemma => kernel_rfl) (fun _ _ _ _ hh => hh) (fun w h => by first | exact r_move h rfl) rfl ?_
      clear hD h a w; intro a w h hD
      refine d_take0 (listed' := #[true, true, true, true, true, false, false, false, false, false, false, false, false, false, false, false, false, false]) h hD 4 (by as_aux_lemma => kernel_rfl) rfl (by as_aux_lemma => kernel_rfl) (by as_aux_lemma => kernel_rfl) (by as_aux_lemma => kernel_rfl) (fun _ _ _ _ hh => hh) (fun w h => by first | exact r_bin h rfl rfl (B.sub_i64 (by omega) (by omega))) rfl ?_
      clear hD h a w; intro a w h hD
      refine d_take0 (listed' := #[true, true, true, true, true, true, false, false, false, false, false, false, false, false, false, false, false, false]) h hD 5 (by as_aux_lemma => kernel_rfl) rfl (by as_aux_lemma => kernel_rfl) (by as_aux_lemma => kernel_rfl) (by as_aux_lemma => kernel_rfl) (fun _ _ _ _ hh => hh) (fun w h => by first | exact r_move h rfl) rfl ?_
      clear hD h a w; intro a w h hD
      refine d_take0 (listed' := #[true, true, true, true, true, true, true, false, false, false, false, false, false, false, false, false, false, false]) h hD 6 (by as_aux_lemma => kernel_rfl) rfl (by as_aux_lemma => kernel_rfl) (by as_aux_lemma => kernel_rfl) (by as_aux_lemma => kernel_rfl) (fun _ _ _ _ hh => hh) (fun w h => by first | exact r_move h rfl) rfl ?_
      clear hD h a w; intro a w h hD
      refine d_take0 (listed' := #[true, true, true, true, true, true, true, true, false, false, false, false, false, false, false, false, false, false]) h hD 7 (by as_aux_lemma => kernel_rfl) rfl (by as_aux_lemma => kernel_rfl) (by as_aux_lemma => kernel_rfl) (by as_aux_lemma => kernel_rfl) (fun _ _ _ _ hh => hh) (fun w h => by first | exact r_bin h rfl rfl (B.sub_i64 (by omega) (by omega))) rfl ?_
      clear hD h a w; intro a w h hD
      refine d_take (listed' := #[true, true, true, true, true, true, true, true, true, false, false, false, false, false, false, false, false, false]) h hD 8 _ (by as_aux_lemma => kernel_rfl) rfl (by as_aux_lemma => kernel_rfl) (by as_aux_lemma => kernel_rfl) (by as_aux_lemma => kernel_rfl) (fun _ _ _ _ hh => hh) h.2 (fun w hw => by first | exact r_elPs ⟨h.1, hw⟩ rfl rfl K.u_S_pack_item K.sz_pack_item hsp (P0.length + q') (by omega) (by omega)) rfl ?_
      clear hD h a w; intro a w h hD
      refine d_take (listed' := #[true, true, true, true, true, true, true, true, true, true, false, false, false, false, false, false, false, false]) h hD 9 _ (by as_aux_lemma => kernel_rfl) rfl (by as_aux_lemma => kernel_rfl) (by as_aux_lemma => kernel_rfl) (by as_aux_lemma => kernel_rfl) (fun _ _ _ _ hh => hh) h.2 (fun w hw => by first | exact r_elM (cells := cellsI) ⟨h.1, hw⟩ rfl K.u_pack_item rfl K.sz_pack_item rfl (Views.own 0 rfl) hzc) rfl ?_
      clear hD h a w; intro a w h hD
      refine d_take0 (listed' := #[true, true, true, true, true, true, true, true, true, true, true, false, false, false, false, false, false, false]) h hD 10 (by as_aux_lemma => kernel_rfl) rfl (by as_aux_lemma => kernel_rfl) (by as_aux_lemma => kernel_rfl) (by as_aux_lemma => kernel_rfl) (fun _ _ _ _ hh => hh) (fun w h => by first | exact r_move h rfl) rfl ?_
      clear hD h a w; intro a w h hD
      refine d_take0 (listed' := #[true, true, true, true, true, true, true, true, true, true, true, true, false, false, false, false, false, false]) h hD 11 (by as_aux_lemma => kernel_rfl) rfl (by as_aux_lemma => kernel_rfl) (by as_aux_lemma => kernel_rfl) (by as_aux_lemma => kernel_rfl) (fun _ _ _ _ hh => hh) (fun w h => by first | exact r_move h rfl) rfl ?_
      clear hD h a w; intro a w h hD
      refine d_take (listed' := #[true, true, true, true, true, true, true, true, true, true, true, true, true, false, false, false, false, false]) h hD 12 (F) (by as_aux_lemma => kernel_rfl) rfl (by as_aux_lemma => kernel_rfl) (by as_aux_lemma => kernel_rfl) (by as_aux_lemma => kernel_rfl) (fun _ _ _ _ hh => hh) (by first | exact h.2 | exact h.2.drop 1 | exact h.2.drop 2 | exact h.2.drop 3 | exact h.2.drop 4 | exact h.2.drop 5 | exact h.2.drop 6 | exact h.2.drop 7) (fun w hw => by first | exact r_elPs ⟨h.1, hw⟩ rfl rfl K.u_S_pack_item K.sz_pack_item hsp (P0.length + (q' + 1)) rfl (by omega)) rfl ?_
      clear hD h a w; intro a w h hD
      refine d_take (listed' := #[true, true, true, true, true, true, true, true, true, true, true, true, true, true, false, false, false, false]) h hD 13 _ (by as_aux_lemma => kernel_rfl) rfl (by as_aux_lemma => kernel_rfl) (by as_aux_lemma => kernel_rfl) (by as_aux_lemma => kernel_rfl) (fun _ _ _ _ hh => hh) h.2 (fun w hw => by first | exact r_elM (cells := cellsI) ⟨h.1, hw⟩ rfl K.u_pack_item rfl K.sz_pack_item rfl (Views.own 0 rfl) hgx) rfl ?_
      clear hD h a w; intro a w h hD
      refine d_take (listed' := #[true, true, true, true, true, true, true, true, true, true, true, true, true, true, true, false, false, false]) h hD 14 (F) (by as_aux_lemma => kernel_rfl) rfl (by as_aux_lemma => kernel_rfl) (by as_aux_lemma => kernel_rfl) (by as_aux_lemma => kernel_rfl) (fun _ _ _ _ hh => hh) (by first | exact h.2 | exact h.2.drop 1 | exact h.2.drop 2 | exact h.2.drop 3 | exact h.2.drop 4 | exact h.2.drop 5 | exact h.2.drop 6 | exact h.2.drop 7) (fun w hw => by first | exact r_elPs ⟨h.1, hw⟩ rfl rfl K.u_S_pack_item K.sz_pack_item hsp (P0.length + (q' + 1)) rfl (by omega)) rfl ?_
      clear hD h a w; intro a w h hD
      refine d_only (listed' := #[true, true, true, true, true, true, true, true, true, true, true, true, true, true, true, true, false, false]) 15 [false, false, true, false, false] (by as_aux_lemma => kernel_rfl) rfl rfl (by as_aux_lemma => kernel_rfl) (by as_aux_lemma => kernel_rfl) ?_
      first
            | (refine op_storeR h rfl rfl K.sz_pack_item 0 rfl (by first | omega | (simp only [List.length_cons, List.length_nil]; omega) | (simp; done) | (simp; omega)) ?_)
            | (refine op_storeR h rfl rfl K.sz_pack_item 1 rfl (by first | omega | (simp only [List.length_cons, List.length_nil]; omega) | (simp; done) | (simp; omega)) ?_)
            | (refine op_storeR h rfl rfl K.sz_pack_item 2 rfl (by first | omega | (simp only [List.length_cons, List.length_nil]; omega) | (simp; done) | (simp; omega)) ?_)
            | (refine op_storeR h rfl rfl K.sz_pack_item 3 rfl (by first | omega | (simp only [List.length_cons, List.length_nil]; omega) | (simp; done) | (simp; omega)) ?_)
            | (refine op_storeR h rfl rfl K.sz_pack_item 4 rfl (by first | omega | (simp only [List.length_cons, List.length_nil]; omega) | (simp; done) | (simp; omega)) ?_)
            | (refine op_storeR h rfl rfl K.sz_pack_item 5 rfl (by first | omega | (simp only [List.length_cons, List.length_nil]; omega) | (simp; done) | (simp; omega)) ?_)
      clear hD h a w; intro a w h
      (try simp only [List.set_cons_zero, List.set_cons_succ] at h)
      refine d_pay (Paid.cons (by first | exact h.2 | exact h.2.drop 1 | exact h.2.drop 2 | exact h.2.drop 3 | exact h.2.drop 4 | exact h.2.drop 5 | exact h.2.drop 6 | exact h.2.drop 7) (Paid.nil)) (fun hD => ?_)
      refine d_take (listed' := #[true, true, true, true, true, true, true, true, true, true, true, true, true, true, true, true, true, false]) h hD 16 _ (by as_aux_lemma => kernel_rfl) rfl (by as_aux_lemma => kernel_rfl) (by as_aux_lemma => kernel_rfl) (by as_aux_lemma => kernel_rfl) (fun _ _ _ _ hh => hh) h.2 (fun w hw => by first | exact r_elPs ⟨h.1, hw⟩ rfl rfl K.u_S_pack_item K.sz_pack_item hsp (P0.length + q') (by omega) (by omega)) rfl ?_
      clear hD h a w; intro a w h hD
      refine d_only (listed' := #[true, true, true, true, true, true, true, true, true, true, true, true, true, true, true, true, true, true]) 17 [false, false] (by as_aux_lemma => kernel_rfl) rfl rfl (by as_aux_lemma => kernel_rfl) (by as_aux_lemma => kernel_rfl) ?_
      first
            | (refine op_storeR h rfl rfl K.sz_pack_item 0 rfl (by first | omega | (simp only [List.length_cons, List.length_nil]; omega) | (simp; done) | (simp; omega)) ?_)
            | (refine op_storeR h rfl rfl K.sz_pack_item 1 rfl (by first | omega | (simp only [List.length_cons, List.length_nil]; omega) | (simp; done) | (simp; omega)) ?_)
            | (refine op_storeR h rfl rfl K.sz_pack_item 2 rfl (by first | omega | (simp only [List.length_cons, List.length_nil]; omega) | (simp; done) | (simp; omega)) ?_)
            | (refine op_storeR h rfl rfl K.sz_pack_item 3 rfl (by first | omega | (simp only [List.length_cons, List.length_nil]; omega) | (simp; done) | (simp; omega)) ?_)
            | (refine op_storeR h rfl rfl K.sz_pack_item 4 rfl (by first | omega | (simp only [List.length_cons, List.length_nil]; omega) | (simp; done) | (simp; omega)) ?_)
            | (refine op_storeR h rfl rfl K.sz_pack_item 5 rfl (by first | omega | (simp only [List.length_cons, List.length_nil]; omega) | (simp; done) | (simp; omega)) ?_)
      clear hD h a w; intro a w h
      (try simp only [List.set_cons_zero, List.set_cons_succ] at h)
      refine d_pay (Paid.nil) (fun hD => ?_)
      refine d_done (by kernel_rfl) ?_
      clear hD
      refine b_normal ?_
      refine c_then ?_
      refine c_region ?_
      refine wv h (r_move h rfl) rfl ?_
      clear h a w; intro a w h
      refine wv h (r_bin h rfl rfl (B.sub_i64 (by omega) (by omega))) rfl ?_
      clear h a w; intro a w h
      rw [show (((P0.length + (q' + 1) : Nat) : Int) - 1) = ((P0.length + q' : Nat) : Int) by omega] at h
      refine wv h (r_assign h rfl) rfl ?_
      clear h a w; intro a w h
      refine wnil ?_
      have e := mvL_back P0 S R x z q' hzq
      rw [hcur] at h
      rw [show P0.length + q' + 1 = P0.length + (q' + 1) by omega] at e
      rw [e] at h
      exact ⟨q', h.keep [0, 1, 2, 3, 8, 9], ⟨by omega, fun y hy => by rw [hzq] at hy; cases hy; exact ht2.2⟩, by omega⟩
     ·
      have hfin := ins_step (T := M.take k) (x := x) (q := q) hS (by omega) (fun y h0 hy => by
          rw [hz1 h0] at hy; cases hy
          cases hh : lt x z with
          | false => rfl
          | true => exact absurd ⟨h0, hh⟩ ht2) hq2
      rw [hcur, mvL, hfin, ← tM, hR] at h
      refine c_exit ?_
      refine e_then ?_
      refine e_then ?_
      refine e_here ?_
      refine b_normal ?_
      refine c_then ?_
      refine c_region ?_
      refine wv h (r_move h rfl) rfl ?_
      clear h a w; intro a w h
      refine wv h (r_bin h rfl rfl (B.add_i64 (by omega) (by omega))) rfl ?_
      clear h a w; intro a w h
      refine wv h (r_assign h rfl) rfl ?_
      clear h a w; intro a w h
      refine wnil ?_
      rw [show P0 ++ isort (M.take (k + 1)) ++ (M.drop (k + 1) ++ Q0) = P0 ++ (isort (M.take (k + 1)) ++ M.drop (k + 1)) ++ Q0 by simp] at h
      exact ⟨k + 1, h.keep [0, 1, 2, 3, 8], by omega, by omega⟩
   ·
    refine c_exit ?_
    refine e_then ?_
    refine e_then ?_
    refine e_here ?_
    have e : isort (M.take k) ++ M.drop k = isort M := by rw [List.take_of_length_le (by omega), List.drop_eq_nil_of_le (by omega), List.append_nil]
    rw [e] at h
    exact end0 h rfl ⟨(), rfl, h.2, trivial⟩
end Go.Proofs.K
