/- What PackErrs rests on, part 2 of 6: the small library for walks, contracts of functions, plain laws. No statement is proved here. -/
import Derived.Test.YtfhlbfalgdipiaaDoorPackErrsZ1
import Derived.StillTail
import Derived.OrdersHeld
import Derived.ChangeArms
import Derived.Deep.Strs
import Derived.Laws.StructEq
import Derived.Test.YtfhlbfalgdipiaaDoorProg
set_option linter.unusedVariables false
set_option linter.unusedSimpArgs false
set_option linter.defProp false
set_option maxRecDepth 10000
set_option maxHeartbeats 2000000
/- A small library for walks, part R: parts of arrays; guards in drawn regions; blocks whose cells stand in a row. No statement is proved here. -/
namespace Go.Sl
section
variable {P : Program} {n : Nat} {s w : World} {a : Act} {E : List (Nat × Value)} {L F : List HItem} {Q : Exit → Act → World → Prop} {next : Act → World → Prop}
variable {d : Nat} {dst : Option Nat} {ty : TypeId} {pos : String} {aft : Array Edge} {g : Option (Nat × Bool)}

theorem r_sliceA (h : St n s a w E L) {t el : TypeId} {x : Operand} {b o N size by_ : Nat} (hx : ev E x = some (.pointer (some ⟨b, o, none⟩))) (hu : P.underlying t = some (.array N el)) (hs : tsz P el = some (size, by_)) (hN : Nat.blt 0 N = true) :
    (execOp a.eval ⟨dst, .slice t x none none none, ty, pos, aft, g⟩).run P w = .ok (.value (.slice (some ⟨b, o, none⟩) N N)) w := by
  have h0 : 0 < N := Nat.le_of_ble_eq_true hN
  have hb := run_bounds (P := P) (isS := false) (len := N) (cap := N) (lo := none) (hi := none) h.1 rfl rfl (Nat.zero_le _) (Nat.le_refl _) w
  simp only [Option.map_none] at hb
  have hne : ¬ N = 0 := by omega
  simp [execOp, h.1.ev hx, Instr.sliceAt, run_underlying hu, Instr.sureAddr, hb, run_sizeOf hs, hne, Addr.add_none]
theorem r_sliceAx (h : St n s a w E L) {t el : TypeId} {x : Operand} {lo hi : Option Operand} {b o N size by_ : Nat} (hx : ev E x = some (.pointer (some ⟨b, o, none⟩))) (hu : P.underlying t = some (.array N el)) (hs : tsz P el = some (size, by_)) (i j : Nat) (hl : Bnd E lo 0 i) (hh : Bnd E hi N j) (h1 : i ≤ j) (h2 : j ≤ N) (h3 : i < N) :
    (execOp a.eval ⟨dst, .slice t x lo hi none, ty, pos, aft, g⟩).run P w = .ok (.value (.slice (some ⟨b, o + i * size, none⟩) (j - i) (N - i))) w := by
  have hb := run_bounds (P := P) (isS := false) (len := N) (cap := N) h.1 hl hh h1 h2 w
  have hne : ¬ N = i := by omega
  simp [execOp, h.1.ev hx, Instr.sliceAt, run_underlying hu, Instr.sureAddr, hb, run_sizeOf hs, hne, Addr.add_none]
/-- the bytes of an array in its block, through a slice of it -/
theorem ViewsB.arr {b N cap : Nat} {l : List UInt8} {T : TypeId} {fr : Nat × Nat} (i : Nat) (hi : L[i]? = some (Blk b (.cells (arr8 l) T fr))) (hl : l.length = N) (hc : N ≤ cap) (hm : cap ≤ maxLen) : ViewsB L (.slice (some ⟨b, 0, none⟩) N cap) l := by
  subst hl
  exact Views.of_mem i hi fun h hb => ⟨by simp [bs], _, cap, rfl, hc, hm, .inr ⟨b, 0, arr8 l, T, fr, rfl, hb, by simp [arr8, bs, List.take_of_length_le]⟩⟩

/-- number i of a drawn region is taken first, guarded or not -/
theorem h_takeG {s : World} {ops : Array Oper} {listed listed' : Array Bool} {fuel : Nat} {op : Op} {v : Value} (h : St n s a w E L) (i : Nat) {j : Nat} {b g : Bool} (hl : listed.setIfInBounds i true = listed') (hi : ops[i]? = some (Oper.mk (some d) op ty pos aft (some (j, b)))) (hs : Region.noSelect ops = true) (hf : Region.free .any ops listed i = true) (hr : (Region.ready .any ops listed).contains i = true)
    (hQ : ∀ v c a w, Q (.panic c) (a.put (some d) v) w → Q (.panic c) a w) (hF : Sat s w F) (hg : Wants ops E j b g) (hrun : g = true → ∀ w, Sat s w F → (execOp a.eval (Oper.mk (some d) op ty pos aft (some (j, b)))).run P w = .ok (.value v) w) (hd : Nat.blt d n = true)
    (k : ∀ a w, St n s a w ((d, gval g v) :: E) L → Held P s ops Q F fuel listed' a w) : Held P s ops Q F (fuel + 1) listed a w := by
  subst hl
  have hw := hg.wanted h.1
  cases g with
  | true => exact wpAnyH_take hi hs hf hr (hQ _) (.inl ⟨by simp [Region.wanted, hw], hrun rfl⟩) hF (k _ _ ⟨h.1.put hd _, h.2⟩)
  | false => exact wpAnyH_take hi hs hf hr (hQ _) (.inr ⟨by simp [Region.wanted, hw], rfl⟩) hF (k _ _ ⟨h.1.put hd _, h.2⟩)

/-- a cell of a block whose cells stand in a row is written -/
theorem op_storeN (h : St n s a w E L) {t : TypeId} {x y : Operand} {b o by_ : Nat} {v : Value} (hx : ev E x = some (.pointer (some ⟨b, o, none⟩))) (hy : ev E y = some v) (hs : tsz P t = some (1, by_)) (h1 : v.oneCell' = true)
    (i : Nat) {vs : List Value} {T : TypeId} (hi : L[i]? = some (Blk b (.cells ⟨vs⟩ T))) (ho : Nat.blt o vs.length = true)
    (k : ∀ a w, St n s a w E (L.set i (Blk b (.cells ⟨vs.set o v⟩ T))) → next a w) : (Oper.mk none (.store t x y) ty pos aft g).wp P a w next Q := by
  refine op_store h hx hy hs h1 i hi ho (unfrozen_zero _) (fun a w h => k a w ?_)
  have e : (⟨vs⟩ : Array Value).setIfInBounds o v = ⟨vs.set o v⟩ := by simp
  rw [e] at h; exact h
/-- a whole struct, or array, out of a block whose cells stand in a row -/
theorem r_ldA (h : St n s a w E L) {t : TypeId} {x : Operand} {b sz by_ : Nat} {dd : TypeDesc} (hx : ev E x = some (.pointer (some ⟨b, 0, none⟩))) (hu : P.underlying t = some dd) (hf : TypeDesc.flat dd = false) (hs : tsz P t = some (sz, by_))
    (i : Nat) {vs : List Value} {T : TypeId} {fr : Nat × Nat} (hi : L[i]? = some (Blk b (.cells ⟨vs⟩ T fr))) (hl : vs.length = sz) : (execOp a.eval ⟨dst, .load t x, ty, pos, aft, g⟩).run P w = .ok (.value (.agg ⟨vs⟩)) w :=
  r_loadAgg h hx hu hf hs i hi (us := vs) (by rw [List.drop_zero, List.take_of_length_le (by simp [hl])]) hl
/-- a whole struct, or array, into such a block -/
theorem op_stA (h : St n s a w E L) {t : TypeId} {x y : Operand} {b sz by_ : Nat} {us : List Value} (hx : ev E x = some (.pointer (some ⟨b, 0, none⟩))) (hy : ev E y = some (.agg ⟨us⟩)) (hs : tsz P t = some (sz, by_)) (hl : us.length = sz) (h1 : ∀ u ∈ us, u.oneCell' = true)
    (i : Nat) {vs : Array Value} {T : TypeId} (hi : L[i]? = some (Blk b (.cells vs T))) (hv : vs.size = sz)
    (k : ∀ a w, St n s a w E (L.set i (Blk b (.cells ⟨us⟩ T))) → next a w) : (Oper.mk none (.store t x y) ty pos aft g).wp P a w next Q := by
  subst hl
  exact op_storeAgg (us := us) (vs' := ⟨us⟩) h hx hy hs h1 i hi (Nat.ble_eq_true_of_le (by simp [hv])) (NF.zero _) (splice_all _ _ (by simp [hv])) k
theorem arr8_one (l : List UInt8) : ∀ u ∈ l.map bv, u.oneCell' = true := bs_one l
/-- a loop, of which the state at its head is shown behind the call -/
theorem c_loopX (_h : St n s a w E L) {X : Type} {c : Code} (E' : X → List (Nat × Value)) (L' : X → List HItem) (φ : X → Prop) (m : X → Nat) (x : X) (h : St n s a w (E' x) (L' x)) (h0 : φ x)
    (round : ∀ x a w, φ x → St n s a w (E' x) (L' x) → c.wp P (Exit.then (fun a' w' => ∃ x', St n s a' w' (E' x') (L' x') ∧ φ x' ∧ m x' < m x) Q) a w) : (Code.loop c).wp P Q a w :=
  c_loop E' L' φ m x h h0 round
/-! ### A drawn region whose last operations stand in a row: those ahead of them only read -/
theorem c_tail {id : Nat} {l : List Oper} (m : Nat) (hm : P.follows .mixedOrders = true) (hB : Region.lexTailB .any l.toArray m = true) (h : St n s a w E L)
    (k : ∀ a w, St n s a w E L → wpStill P l.toArray w (fun a' => wpList P l.toArray Q (l.drop m) a' w) (l.take m) a) : (Code.region id l.toArray true).wp P Q a w :=
  wp_region_still_tail m hm hB (k a { w with drawn := w.drawn + 1 } ⟨h.1, h.2.congr rfl rfl rfl rfl⟩)
theorem yv {QQ : Act → Prop} {ops : Array Oper} {rest : List Oper} {op : Op} {v : Value} (h : St n s a w E L) (hr : (execOp a.eval (Oper.mk (some d) op ty pos aft none)).run P w = .ok (.value v) w) (hd : Nat.blt d n = true)
    (k : ∀ a, St n s a w ((d, v) :: E) L → wpStill P ops w QQ rest a) : wpStill P ops w QQ (Oper.mk (some d) op ty pos aft none :: rest) a := by
  unfold wpStill
  rw [if_pos (by simp [Region.wanted])]
  unfold Oper.still
  rw [hr, Oper.stillUpon_value]
  exact k _ ⟨h.1.put hd v, h.2⟩
theorem yvG {QQ : Act → Prop} {ops : Array Oper} {rest : List Oper} {op : Op} {v : Value} (h : St n s a w E L) {j : Nat} {b g : Bool} (hg : Wants ops E j b g) (hr : g = true → (execOp a.eval (Oper.mk (some d) op ty pos aft (some (j, b)))).run P w = .ok (.value v) w) (hd : Nat.blt d n = true)
    (k : ∀ a, St n s a w ((d, gval g v) :: E) L → wpStill P ops w QQ rest a) : wpStill P ops w QQ (Oper.mk (some d) op ty pos aft (some (j, b)) :: rest) a := by
  have hw := hg.wanted h.1
  cases g with
  | true =>
    unfold wpStill
    rw [if_pos (by simp [Region.wanted, hw])]
    unfold Oper.still
    rw [hr rfl, Oper.stillUpon_value]
    exact k _ ⟨h.1.put hd _, h.2⟩
  | false =>
    unfold wpStill
    rw [if_neg (by simp [Region.wanted, hw])]
    exact k _ ⟨h.1.put hd _, h.2⟩
theorem ynil {QQ : Act → Prop} {ops : Array Oper} (h : QQ a) : wpStill P ops w QQ [] a := h

theorem sepL_erase : ∀ (L : List HItem) (i : Nat) (h : HM), sepL L h → sepL (L.eraseIdx i) h
  | [], _, _, h => by simpa using h
  | I :: L, 0, h, hs => by simpa using sepL_tail hs
  | I :: L, i + 1, h, ⟨D, hI, hL⟩ => by
    rw [List.eraseIdx_cons_succ]
    exact ⟨D, hI, sepL_erase L i _ hL⟩
/-- an item is let go -/
theorem St.rid (h : St n s a w E L) (i : Nat) : St n s a w E (L.eraseIdx i) := ⟨h.1, h.2.1, h.2.2.1, h.2.2.2.1, sepL_erase L i _ h.2.2.2.2⟩
/-- rows that are a call's own -/
theorem St.toOwnL {α : Type} {enc : α → Value} {b N : Nat} {vs : Array Value} {T : TypeId} {fr : Nat × Nat} (h : St n s a w E (Blk b (.cells vs T fr) :: L)) (l : List α) (hf : NF fr vs.size) (hx : vs.toList = l.map enc) (hN : N = l.length) (hm : Nat.ble N maxLen = true) :
    St n s a w E (OwnL enc (.slice (some ⟨b, 0, none⟩) N N) l :: L) := by
  subst hN
  exact ⟨h.1, h.2.toOwn 1 l.length hf (Nat.le_of_ble_eq_true hm) hx (by rw [Nat.mul_one, ← List.length_map (f := enc), ← hx]; simp)⟩
theorem St.addNilL {α : Type} {enc : α → Value} (h : St n s a w E L) : St n s a w E (OwnL enc (.slice none 0 0) [] :: L) := h.addNil 1
theorem St.addNilM {α : Type} {size : Nat} {cells : α → List Value} (h : St n s a w E L) : St n s a w E (OwnM size cells (.slice none 0 0) [] :: L) := h.addNil size
theorem op_appendL1R {α : Type} {enc : α → Value} {u : α} {T : TypeId} {b : Nat} {fr : Nat × Nat} (h : St n s a w E (Blk b (.cells #[enc u] T fr) :: L)) (h1 : (enc u).oneCell' = true) {t el : TypeId} {x y : Operand} {bytes : Nat} {z v : Value} {l : List α} (hx : ev E x = some v) (hy : ev E y = some (.slice (some ⟨b, 0, none⟩) 1 1)) (hu : P.underlying t = some (.slice el)) (hs : tsz P el = some (1, bytes)) (hz : tzero P el = some z)
    (hzs : z.cells.size = 1) (hby : Nat.ble bytes 4096 = true) (i : Nat) (hi : L[i]? = some (OwnL enc v l)) (hN : l.length + 1 ≤ 4294967296)
    (hd : Nat.blt d n = true) (k : ∀ v' a w, Sat s w (L.set i (Rd 1 v l.length (l.map enc))) → St n s a w ((d, v') :: E) (L.set i (OwnL enc v' (l ++ [u]))) → next a w) :
    (Oper.mk (some d) (.call { callee := .builtin .append, args := #[x, y], argTypes := #[t, t] }) ty pos aft g).wp P a w next Q := by
  have hv : Views (Blk b (.cells #[enc u] T fr) :: L) 1 (.slice (some ⟨b, 0, none⟩) 1 1) 1 [enc u] := Views.blk 0 rfl rfl rfl rfl rfl
  refine op_appendR (xs := l.map enc) (N := l.length) h hx hy hu hs hz hzs hby (i + 1) (show L[i]? = _ from hi) (Src.views hu hv h.2) (by intro u' hu'; simp at hu'; subst hu'; exact h1) hN hd (fun v' a w hR h => k v' a w (hR.drop 1) ?_)
  have e : Own 1 v' (l.length + 1) (l.map enc ++ [enc u]) = OwnL enc v' (l ++ [u]) := OwnL_eq (by simp) (by simp)
  rw [e] at h; exact h.drop 1
/-- a test that is told in other words -/
theorem c_condP (h : St n s a w E L) {c : Operand} {x y : Code} {t : Bool} {p : Prop} (hc : ev E c = some (.bool t)) (hp : t = true ↔ p) (ht : p → x.wp P Q a w) (hf : ¬ p → y.wp P Q a w) : (Code.cond c x y).wp P Q a w :=
  c_cond h hc (fun e => ht (hp.1 e)) (fun e => hf (fun q => by rw [hp.2 q] at e; cases e))
end
end Go.Sl

/- A small library for walks, part S: calls whose contract tells one value, guarded or not. No statement is proved here. -/
namespace Go.Sl
section
variable {P : Program} {n : Nat} {s w : World} {a : Act} {E : List (Nat × Value)} {L : List HItem} {Q : Exit → Act → World → Prop}
variable {d : Nat} {ty : TypeId} {pos : String} {aft : Array Edge} {ops : Array Oper} {rest : List Oper} {v : Value} {QQ : Act → Prop}

/-- what a contract says that tells one value and keeps the items -/
abbrev One (s : World) (v : Value) (L : List HItem) : Ending → World → Prop := Ret s (fun _ : Unit => v) (fun _ => L) (fun _ => True)

theorem wcG (h : St n s a w E L) {j : Nat} {b gg : Bool} (hg : Wants ops E j b gg) {f : FuncId} {xs : List Operand} {ats : Array TypeId} (hf : isGo P f = true)
    (hc : gg = true → ∃ vs, evs E xs = some vs ∧ Calls P f vs.toArray w (One s v L)) (hd : Nat.blt d n = true)
    (k : ∀ a w, St n s a w ((d, gval gg v) :: E) L → wpList P ops Q rest a w) : wpList P ops Q (Oper.mk (some d) (.call { callee := .value (.func f), args := xs.toArray, argTypes := ats }) ty pos aft (some (j, b)) :: rest) a w := by
  have hw := hg.wanted h.1
  cases gg with
  | true =>
    obtain ⟨vs, hx, hc⟩ := hc rfl
    unfold wpList
    rw [if_pos (by simp [Region.wanted, hw])]
    exact .inl (op_call h hx hf hc hd (fun _ a w _ h => k a w h))
  | false =>
    unfold wpList
    rw [if_neg (by simp [Region.wanted, hw])]
    exact k _ _ ⟨h.1.put hd _, h.2⟩
theorem q_c (hE : Env n a E) {f : FuncId} {xs : List Operand} {ats : Array TypeId} {vs : List Value} (hx : evs E xs = some vs) (hf : isGo P f = true)
    (hc : ∀ w, Sat s w L → Calls P f vs.toArray w (One s v L)) (hd : Nat.blt d n = true)
    (k : ∀ a, Env n a ((d, v) :: E) → wpQuiet P ops (fun w => Sat s w L) QQ rest a) : wpQuiet P ops (fun w => Sat s w L) QQ (Oper.mk (some d) (.call { callee := .value (.func f), args := xs.toArray, argTypes := ats }) ty pos aft none :: rest) a :=
  q_call hE hx hf (fun w hw => Ret.keeps (hc w hw) (fun _ _ => rfl) (fun _ _ h => h)) hd k
theorem q_cG (hE : Env n a E) {j : Nat} {b gg : Bool} (hg : Wants ops E j b gg) {f : FuncId} {xs : List Operand} {ats : Array TypeId} (hf : isGo P f = true)
    (hc : gg = true → ∃ vs, evs E xs = some vs ∧ ∀ w, Sat s w L → Calls P f vs.toArray w (One s v L)) (hd : Nat.blt d n = true)
    (k : ∀ a, Env n a ((d, gval gg v) :: E) → wpQuiet P ops (fun w => Sat s w L) QQ rest a) : wpQuiet P ops (fun w => Sat s w L) QQ (Oper.mk (some d) (.call { callee := .value (.func f), args := xs.toArray, argTypes := ats }) ty pos aft (some (j, b)) :: rest) a :=
  q_callG hE hg hf (fun e => let ⟨vs, hx, hc⟩ := hc e; ⟨vs, hx, fun w hw => Ret.keeps (hc w hw) (fun _ _ => rfl) (fun _ _ h => h)⟩) hd k
/-- noughts -/
theorem op_mkB {next : Act → World → Prop} {g : Option (Nat × Bool)} (h : St n s a w E L) {t el : TypeId} {x y : Operand} {k1 k2 : IntKind} {c1 c2 : Int} {by_ : Nat} (hu : P.underlying t = some (.slice el)) (hs : tsz P el = some (1, by_)) (hz : tzero P el = some (.int .u8 0)) (hx : ev E x = some (.int k1 c1)) (hy : ev E y = some (.int k2 c2))
    {N M : Nat} [NatOf c1 N] (hN : c1 = (N : Int)) [NatOf c2 M] (hM : c2 = (M : Int)) (hNM : N ≤ M) (hM2 : M ≤ 4294967296) (hby : Nat.ble by_ 4096 = true) (hd : Nat.blt d n = true)
    (k : ∀ v a w, St n s a w ((d, v) :: E) (OwnB v (List.replicate N 0) :: L) → next a w) :
    (Oper.mk (some d) (.makeSlice t x y) ty pos aft g).wp P a w next Q :=
  op_makeSliceb h hu hs hz hx hy N M hN hM hNM hM2 hby hd k
end
end Go.Sl

/- A small library for walks, part T: arrays of bytes that come in. No statement is proved here. -/
namespace Go.Sl
open Go.ChangeShapes Go.WideShapes Go.ChangeAt Go.RowKit

theorem bytes_of_ints {cs : List Value} (h : ∀ v ∈ cs, ∃ n : Int, v = .int .u8 n ∧ 0 ≤ n ∧ n ≤ 255) : ∃ l : List UInt8, cs = l.map bv := by
  induction cs with
  | nil => exact ⟨[], rfl⟩
  | cons v cs ih =>
    obtain ⟨l, hl⟩ := ih (fun u hu => h u (by simp [hu]))
    obtain ⟨n, rfl, h1, h2⟩ := h v (by simp)
    exact ⟨UInt8.ofNat n.toNat :: l, by rw [List.map_cons, ← hl, u8_of ⟨h1, h2⟩]⟩
section
variable {P : Program} {H : Type} {enc : TypeId × Value → H} {W : World} {base b0 : Nat} {r : Reach} {sp : Nat → Bool} {held : Bool}

theorem mapM_some {α β : Type} (f : α → Option β) : ∀ (L : List α) (xs : List β), L.mapM f = some xs → ∀ x ∈ L, ∃ y, f x = some y
  | [], _, _, x, hx => by simp at hx
  | a :: L, xs, h, x, hx => by
    rw [List.mapM_cons] at h
    simp only [bind, Option.bind_eq_some_iff, pure] at h
    obtain ⟨y, hy, ys, hys, _⟩ := h
    rcases List.mem_cons.1 hx with rfl | hx
    · exact ⟨y, hy⟩
    · exact mapM_some f L ys hys x hx
theorem arr8_of_trod {t e : TypeId} {N fuel : Nat} {cs : List Value} {x : DataW H × List MemPlace} (ht : P.underlying t = some (.array N e)) (he : P.underlying e = some (.int .u8)) (hc : P.cellsOf e = 1) (hcs : cs.length = N)
    (hf : DataW.trod enc P W base sp held fuel t cs = some x) : ∃ l : List UInt8, cs = l.map bv ∧ l.length = N := by
  cases fuel with
  | zero => simp [DataW.trod] at hf
  | succ m =>
    rw [DataW.trod_step] at hf
    unfold DataW.trodStep at hf
    simp only [ht] at hf
    split at hf
    · simp only [Option.map_eq_some_iff] at hf
      obtain ⟨ys, hy, _⟩ := hf
      have hall : ∀ v ∈ cs, ∃ n : Int, v = .int .u8 n ∧ 0 ≤ n ∧ n ≤ 255 := by
        intro v hv
        obtain ⟨i, hi, rfl⟩ := List.mem_iff_getElem.1 hv
        obtain ⟨y, hyi⟩ := mapM_some _ _ _ hy i (by simp; omega)
        rw [hc] at hyi
        obtain ⟨n, e1, _, wf⟩ := DataW.trod_int he hyi
        rw [Nat.mul_one, List.drop_eq_getElem_cons hi, List.take_succ_cons, List.take_zero] at e1
        refine ⟨n, (List.cons.inj e1).1, ?_⟩
        simpa [Lit.wf, IntKind.min, IntKind.max, IntKind.signed, IntKind.bits] using wf
      obtain ⟨l, hl⟩ := bytes_of_ints hall
      exact ⟨l, hl, by rw [hl] at hcs; simpa using hcs⟩
    · cases hf
theorem open_arr8 {t e : TypeId} {N : Nat} {v : Value} {d : DataW H} {ps : List MemPlace} (ht : P.underlying t = some (.array N e)) (he : P.underlying e = some (.int .u8)) (hc : P.cellsOf e = 1) (hct : P.cellsOf t = N) (hval : Value.okWide P W r b0 t v) (hd : DataW.Trod enc P W base sp held t v d ps) :
    ∃ l : List UInt8, v = .agg (arr8 l) ∧ l.length = N := by
  simp only [Value.okWide, ht] at hval
  obtain ⟨cs, rfl, h2, _⟩ := hval
  obtain ⟨fuel, hf⟩ := hd
  obtain ⟨l, hl, hN⟩ := arr8_of_trod (cs := cs.toList) ht he hc (by simp [h2, hct]) hf
  refine ⟨l, ?_, hN⟩
  have : cs = arr8 l := by apply Array.ext'; simp [arr8, hl]
  rw [this]
end
end Go.Sl

/- A small library for walks, part U: contracts on an item in its place, calls of function values, structs in rows. No statement is proved here. -/
namespace Go.Sl

theorem perm_set : ∀ (L : List HItem) (i : Nat) (I : HItem), i < L.length → (I :: L.eraseIdx i).Perm (L.set i I)
  | [], _, _, h => by simp at h
  | J :: L, 0, I, _ => by simp
  | J :: L, i + 1, I, h => by
    rw [List.eraseIdx_cons_succ, List.set_cons_succ]
    exact (List.Perm.swap J I _).trans ((perm_set L i I (by simpa using h)).cons J)

theorem Sat.rid {s w : World} {L : List HItem} (h : Sat s w L) (i : Nat) : Sat s w (L.eraseIdx i) := ⟨h.1, h.2.1, h.2.2.1, sepL_erase L i _ h.2.2.2⟩
/-- a contract on one item, where that item stands -/
theorem at0 {P : Program} {f : FuncId} {args : Array Value} {s w : World} {X : Type} {r : X → Value} {I : HItem} {I' : X → HItem} {φ : X → Prop} {L : List HItem} (i : Nat) (hi : L[i]? = some I) (hs : Sat s w L)
    (hc : ∀ F, F = L.eraseIdx i → Sat s w (I :: F) → Calls P f args w (Ret s r (fun x => I' x :: F) φ)) : Calls P f args w (Ret s r (fun x => L.set i (I' x)) φ) :=
  (hc _ rfl (hs.front i hi)).mono fun _ _ ⟨x, he, hs', hφ⟩ => ⟨x, he, hs'.perm (perm_set L i _ (List.getElem?_eq_some_iff.1 hi).1), hφ⟩
theorem set_same : ∀ (L : List HItem) (i : Nat) (I : HItem), L[i]? = some I → L.set i I = L
  | [], _, _, h => by simp at h
  | J :: L, 0, I, h => by simp at h; subst h; rfl
  | J :: L, i + 1, I, h => by rw [List.set_cons_succ, set_same L i I (by simpa using h)]
/-- one that leaves the item as it is -/
theorem atS {P : Program} {f : FuncId} {args : Array Value} {s w : World} {X : Type} {r : X → Value} {I : HItem} {φ : X → Prop} {L : List HItem} (i : Nat) (hi : L[i]? = some I) (hs : Sat s w L)
    (hc : ∀ F, F = L.eraseIdx i → Sat s w (I :: F) → Calls P f args w (Ret s r (fun _ => I :: F) φ)) : Calls P f args w (Ret s r (fun _ => L) φ) := by
  have := at0 (I' := fun _ => I) i hi hs hc
  rwa [set_same L i I hi] at this
/-- one that leaves the item as it is, and adds another one -/
theorem atA {P : Program} {f : FuncId} {args : Array Value} {s w : World} {X : Type} {r : X → Value} {I : HItem} {N : X → HItem} {φ : X → Prop} {L : List HItem} (i : Nat) (hi : L[i]? = some I) (hs : Sat s w L)
    (hc : ∀ F, F = L.eraseIdx i → Sat s w (I :: F) → Calls P f args w (Ret s r (fun x => N x :: I :: F) φ)) : Calls P f args w (Ret s r (fun x => N x :: L) φ) :=
  (hc _ rfl (hs.front i hi)).mono fun _ _ ⟨x, he, hs', hφ⟩ => ⟨x, he, by
    have := hs'.perm ((perm_set L i I (List.getElem?_eq_some_iff.1 hi).1).cons _)
    rwa [set_same L i I hi] at this, hφ⟩
/-- one that adds an item, too -/
theorem atN {P : Program} {f : FuncId} {args : Array Value} {s w : World} {X : Type} {r : X → Value} {I : HItem} {I' N : X → HItem} {φ : X → Prop} {L : List HItem} (i : Nat) (hi : L[i]? = some I) (hs : Sat s w L)
    (hc : ∀ F, F = L.eraseIdx i → Sat s w (I :: F) → Calls P f args w (Ret s r (fun x => N x :: I' x :: F) φ)) : Calls P f args w (Ret s r (fun x => N x :: L.set i (I' x)) φ) :=
  (hc _ rfl (hs.front i hi)).mono fun _ _ ⟨x, he, hs', hφ⟩ => ⟨x, he, hs'.perm ((perm_set L i _ (List.getElem?_eq_some_iff.1 hi).1).cons _), hφ⟩

theorem ViewsB.len_le {L : List HItem} {v : Value} {l : List UInt8} (hv : ViewsB L v l) {s w : World} (hs : Sat s w L) : l.length ≤ 9223372036854775807 := by
  obtain ⟨A, cap, _, h1, h2⟩ := Views.shape hv hs
  simp [maxLen] at h2; omega
theorem Views.len_le {L : List HItem} {size : Nat} {v : Value} {n : Nat} {xs : List Value} (hv : Views L size v n xs) {s w : World} (hs : Sat s w L) : n ≤ 9223372036854775807 := by
  obtain ⟨A, cap, _, h1, h2⟩ := Views.shape hv hs
  simp [maxLen] at h2; omega
theorem ViewsB.of_drop {L : List HItem} {v : Value} {l : List UInt8} (k : Nat) (hv : ViewsB (L.drop k) v l) : ViewsB L v l := Views.of_drop k hv
theorem Views.prep {L : List HItem} {size : Nat} {v : Value} {n : Nat} {xs : List Value} (hv : Views L size v n xs) (G : List HItem) : Views (G ++ L) size v n xs :=
  Views.of_drop G.length (by rw [List.drop_left]; exact hv)
theorem ViewsB.prep {L : List HItem} {v : Value} {l : List UInt8} (hv : ViewsB L v l) (G : List HItem) : ViewsB (G ++ L) v l := Views.prep hv G
theorem CellsAt.prep {L : List HItem} {p : Addr} {us : List Value} (hc : CellsAt L p us) (G : List HItem) : CellsAt (G ++ L) p us := ⟨hc.1, fun h hs => by
  have := sepL_drop G.length _ h hs
  rw [List.drop_left] at this
  exact hc.2 h this⟩

/-- how the things of a row lie in cells: so many each, one value a cell -/
class Row {α : Type} (cells : α → List Value) (size : outParam Nat) : Prop where
  len : ∀ x, (cells x).length = size
  one : ∀ x, ∀ u ∈ cells x, u.oneCell' = true

section
variable {P : Program} {n : Nat} {s w : World} {a : Act} {E : List (Nat × Value)} {L : List HItem} {Q : Exit → Act → World → Prop} {next : Act → World → Prop}
variable {d : Nat} {dst : Option Nat} {ty : TypeId} {pos : String} {aft : Array Edge} {g : Option (Nat × Bool)}

/-- a function value is called -/
theorem op_callV (h : St n s a w E L) {y : Operand} {f : FuncId} {fs cs : Array Value} {xs : List Operand} {ats : Array TypeId} {vs : List Value} {X : Type} {r : X → Value} {L' : X → List HItem} {φ : X → Prop} (hy : ev E y = some (.func (.func f) fs cs)) (hx : evs E xs = some vs) (hf : isGo P f = true)
    (hc : Calls P f (fs ++ vs.toArray ++ cs) w (Ret s r L' φ)) (hd : Nat.blt d n = true) (k : ∀ x a w, φ x → St n s a w ((d, r x) :: E) (L' x) → next a w) :
    (Oper.mk (some d) (.call { callee := .value y, args := xs.toArray, argTypes := ats }) ty pos aft g).wp P a w next Q := by
  have he : (execOp a.eval (Oper.mk (some d) (.call { callee := .value y, args := xs.toArray, argTypes := ats }) ty pos aft g)).run P w = .ok (.enter f (fs ++ vs.toArray ++ cs)) w := by
    have : execOp a.eval (Oper.mk (some d) (.call { callee := .value y, args := xs.toArray, argTypes := ats }) ty pos aft g) = (do let q ← Deferred.ofValue (a.eval y) (xs.toArray.map a.eval); invoke q.target q.args) := rfl
    rw [this, h.1.ev hy]
    show (callFunc f (fs ++ xs.toArray.map a.eval ++ cs)).run P w = _
    rw [run_callFunc_go hf]
    simp [h.1.evs hx]
  unfold Oper.wp
  rw [he]
  exact hc.mono fun e w' ⟨x, he, hs, hφ⟩ => by subst he; exact k x _ _ hφ ⟨h.1.put hd _, hs⟩

/-- bytes copied over an array in its block -/
theorem op_copyBlk (h : St n s a w E L) {t t2 el : TypeId} {x y : Operand} {b o N cap by_ : Nat} {vs : List Value} {T : TypeId} {vx : Value} {m : List UInt8} (hx : ev E x = some (.slice (some ⟨b, o, none⟩) N cap)) (hy : ev E y = some vx) (hu : P.underlying t = some (.slice el)) (hs : tsz P el = some (1, by_))
    (i : Nat) (hi : L[i]? = some (Blk b (.cells ⟨vs⟩ T))) (hm : ViewsB L vx m) (hN : o + N ≤ vs.length) (hd : Nat.blt d n = true)
    (k : ∀ a w, St n s a w ((d, .int .i64 ((min m.length N : Nat) : Int)) :: E) (L.set i (Blk b (.cells (splice ⟨vs⟩ o (bs (m.take N))) T))) → next a w) :
    (Oper.mk (some d) (.call { callee := .builtin .copy, args := #[x, y], argTypes := #[t, t2] }) ty pos aft g).wp P a w next Q := by
  have hil : i < L.length := (List.getElem?_eq_some_iff.1 hi).1
  have hlen : (Builtin.lenOf vx).run P w = .ok m.length w := by
    obtain ⟨A, c, rfl, _⟩ := Views.shape hm h.2
    rfl
  have hsrc : (Builtin.firstCells 1 (min m.length N) vx).run P w = .ok ((bs m).take (min m.length N * 1)).toArray w := RDh.cells P (hm _ h.2.2.2.2) _ (Nat.min_le_left _ _)
  have hnat : ∀ q : Nat, Nat.min m.length q = min m.length q := fun _ => rfl
  have htk : (bs m).take (min m.length N * 1) = bs (m.take N) := by
    rw [Nat.mul_one, bs_take]
    by_cases hq : m.length ≤ N
    · rw [Nat.min_eq_left hq, List.take_length, List.take_of_length_le hq]
    · rw [Nat.min_eq_right (by omega)]
  rw [htk] at hsrc
  have hF := h.2.front i hi
  have hb : w.heap[b]? = some (.cells ⟨vs⟩ T) := h.2.blk i hi
  have hbl : (bs (m.take N)).length ≤ N := by rw [bs_length, List.length_take]; omega
  obtain ⟨w', hr, g1, g2, g3, g4, g5⟩ := run_storeCells_gen P b T (0, 0) o (bs (m.take N)) 0 ⟨vs⟩ w hb (by show o + 0 + _ ≤ vs.length; omega) (NF.zero _) (bs_one _)
  refine op_run h (w' := w') ?_ hd ?_ k
  · simp [execOp, resolve, invoke, builtin, h.1.ev hx, h.1.ev hy, Builtin.copy_, run_underlying hu, hlen, hnat, run_sizeOf hs, hsrc, hr, goInt]
  · have := Sat.turn hF g1 g2 g3 g4 g5
    exact ⟨this.1, this.2.1, this.2.2.1, sepL_set hil this.2.2.2⟩

/-- a whole struct, or array, of a row that is read -/
theorem r_elM {α : Type} {size : Nat} {cells : α → List Value} [Row cells size] (h : St n s a w E L) {t : TypeId} {x : Operand} {j by_ N : Nat} {v : Value} {l : List α} {u : α} {dd : TypeDesc} (hx : ev E x = some (elP v (j * size))) (hu : P.underlying t = some dd) (hf : TypeDesc.flat dd = false) (hs : tsz P t = some (size, by_))
    (h0 : Nat.blt 0 size = true) (hv : Views L size v N (l.flatMap cells)) (hj : l[j]? = some u) : (execOp a.eval ⟨dst, .load t x, ty, pos, aft, g⟩).run P w = .ok (.value (.agg ⟨cells u⟩)) w :=
  r_elA h hx hu hf hs hv (flatMap_get Row.len l j u hj) (Row.len u) h0
theorem flatMap_cell {α : Type} {size : Nat} {cells : α → List Value} [Row cells size] {l : List α} {j off : Nat} {u : α} {c : Value} (hj : l[j]? = some u) (hc : nth (cells u) off = some c) : (l.flatMap cells)[j * size + off]? = some c := by
  have h1 := flatMap_get (size := size) (cells := cells) Row.len l j u hj
  rw [nth_eq] at hc
  have hlt : off < size := by
    have := (List.getElem?_eq_some_iff.1 hc).1
    rwa [Row.len (size := size) u] at this
  rw [← h1, List.getElem?_take, if_pos hlt, List.getElem?_drop] at hc
  exact hc
/-- a field of one cell of a struct of a row that is read -/
theorem r_elMf {α : Type} {size : Nat} {cells : α → List Value} [Row cells size] (h : St n s a w E L) {t : TypeId} {x : Operand} {j off N : Nat} {v c : Value} {l : List α} {u : α} {dd : TypeDesc} (hx : ev E x = some (elP v (j * size + off))) (hu : P.underlying t = some dd) (hf : TypeDesc.flat dd = true)
    (hv : Views L size v N (l.flatMap cells)) (hj : l[j]? = some u) (hc : nth (cells u) off = some c) : (execOp a.eval ⟨dst, .load t x, ty, pos, aft, g⟩).run P w = .ok (.value c) w :=
  r_elG h hx hu hf hv (flatMap_cell hj hc)
/-- a field that is a struct or an array of a struct of a row that is read -/
theorem r_elMa {α : Type} {size : Nat} {cells : α → List Value} [Row cells size] (h : St n s a w E L) {t : TypeId} {x : Operand} {j off sz by_ N : Nat} {v : Value} {l : List α} {u : α} {us : List Value} {dd : TypeDesc} (hx : ev E x = some (elP v (j * size + off))) (hu : P.underlying t = some dd) (hf : TypeDesc.flat dd = false) (hs : tsz P t = some (sz, by_))
    (hv : Views L size v N (l.flatMap cells)) (hj : l[j]? = some u) (hc : ((cells u).drop off).take sz = us) (hl : us.length = sz) (hle : off + sz ≤ size) (h0 : Nat.blt 0 sz = true) : (execOp a.eval ⟨dst, .load t x, ty, pos, aft, g⟩).run P w = .ok (.value (.agg ⟨us⟩)) w := by
  refine r_elA h hx hu hf hs hv ?_ hl h0
  have h1 := flatMap_get (size := size) (cells := cells) Row.len l j u hj
  rw [← hc, ← h1, List.drop_take, List.take_take, List.drop_drop, Nat.min_eq_left (by omega)]
theorem r_elMa8 {α : Type} {size : Nat} {cells : α → List Value} [Row cells size] (h : St n s a w E L) {t : TypeId} {x : Operand} {j off sz by_ N : Nat} {v : Value} {l : List α} {u : α} {m : List UInt8} {dd : TypeDesc} (hx : ev E x = some (elP v (j * size + off))) (hu : P.underlying t = some dd) (hf : TypeDesc.flat dd = false) (hs : tsz P t = some (sz, by_))
    (hv : Views L size v N (l.flatMap cells)) (hj : l[j]? = some u) (hc : (cells u).drop off = bs m) (hl : m.length = sz) (hle : off + sz ≤ size) (h0 : Nat.blt 0 sz = true) : (execOp a.eval ⟨dst, .load t x, ty, pos, aft, g⟩).run P w = .ok (.value (.agg (arr8 m))) w :=
  r_elMa (us := bs m) h hx hu hf hs hv hj (by rw [hc, List.take_of_length_le (by rw [bs_length, hl]; exact Nat.le_refl _)]) (by rw [bs_length, hl]) hle h0
theorem r_ldF8 (h : St n s a w E L) {t : TypeId} {x : Operand} {b o sz by_ : Nat} {dd : TypeDesc} (hx : ev E x = some (.pointer (some ⟨b, o, none⟩))) (hu : P.underlying t = some dd) (hf : TypeDesc.flat dd = false) (hs : tsz P t = some (sz, by_)) (i : Nat) {vs : List Value} {m : List UInt8} {T : TypeId} {fr : Nat × Nat}
    (hi : L[i]? = some (Blk b (.cells ⟨vs⟩ T fr))) (hv : vs.drop o = bs m) (hl : m.length = sz) : (execOp a.eval ⟨dst, .load t x, ty, pos, aft, g⟩).run P w = .ok (.value (.agg (arr8 m))) w :=
  r_loadAgg h hx hu hf hs i hi (us := bs m) (by show (vs.drop o).take sz = _; rw [hv, List.take_of_length_le (by rw [bs_length, hl]; exact Nat.le_refl _)]) (by rw [bs_length, hl])
/-- a whole struct of one's own row is written -/
theorem op_storeR {α : Type} {size : Nat} {cells : α → List Value} [Row cells size] (h : St n s a w E L) {t : TypeId} {x y : Operand} {j by_ : Nat} {v : Value} {u : α} {l : List α} (hx : ev E x = some (elP v (j * size))) (hy : ev E y = some (.agg ⟨cells u⟩)) (hs : tsz P t = some (size, by_))
    (it : Nat) (hit : L[it]? = some (OwnM size cells v l)) (hj : j < l.length)
    (k : ∀ a w, St n s a w E (L.set it (OwnM size cells v (l.set j u))) → next a w) : (Oper.mk none (.store t x y) ty pos aft g).wp P a w next Q :=
  op_storeM Row.len h hx hy hs (Row.one (size := size) u) it hit hj k
/-- a struct behind a row of one's own, out of the block that was made for it -/
theorem op_appendR1 {α : Type} {size : Nat} {cells : α → List Value} [Row cells size] {u : α} {T : TypeId} {b : Nat} {fr : Nat × Nat} (h : St n s a w E (Blk b (.cells ⟨cells u⟩ T fr) :: L)) {t el : TypeId} {x y : Operand} {bytes : Nat} {z v : Value} {l : List α} (hx : ev E x = some v) (hy : ev E y = some (.slice (some ⟨b, 0, none⟩) 1 1)) (hu : P.underlying t = some (.slice el)) (hs : tsz P el = some (size, bytes)) (hz : tzero P el = some z)
    (hzs : z.cells.size = size) (hby : Nat.ble bytes 4096 = true) (i : Nat) (hi : L[i]? = some (OwnM size cells v l)) (hN : l.length + 1 ≤ 4294967296)
    (hd : Nat.blt d n = true) (k : ∀ v' a w, St n s a w ((d, v') :: E) (L.set i (OwnM size cells v' (l ++ [u]))) → next a w) :
    (Oper.mk (some d) (.call { callee := .builtin .append, args := #[x, y], argTypes := #[t, t] }) ty pos aft g).wp P a w next Q :=
  op_appendM1 h (Row.len u) (Row.one (size := size) u) hx hy hu hs hz hzs hby i hi hN hd k
/-- a row behind nil: one's own copy -/
theorem op_appendnR {α : Type} {size : Nat} {cells : α → List Value} [Row cells size] (h : St n s a w E L) {t el : TypeId} {x y : Operand} {bytes : Nat} {z vx : Value} {l : List α} (hx : ev E x = some (.slice none 0 0)) (hy : ev E y = some vx) (hu : P.underlying t = some (.slice el)) (hs : tsz P el = some (size, bytes)) (hz : tzero P el = some z)
    (hzs : z.cells.size = size) (hby : Nat.ble bytes 4096 = true) (hv : Views L size vx l.length (l.flatMap cells)) (hN : l.length ≤ 4294967296)
    (hd : Nat.blt d n = true) (k : ∀ v' a w, St n s a w ((d, v') :: E) (OwnM size cells v' l :: L) → next a w) :
    (Oper.mk (some d) (.call { callee := .builtin .append, args := #[x, y], argTypes := #[t, t] }) ty pos aft g).wp P a w next Q :=
  op_appendNil h hx hy hu hs hz hzs hby (Src.views hu hv h.2) (by
    intro u hu
    obtain ⟨x, _, hx⟩ := List.mem_flatMap.1 hu
    exact Row.one (size := size) x u hx) hN hd k
/-- a slice written out of one struct -/
theorem op_build1 (h : St n s a w E L) {t el : TypeId} {y : Operand} {size by_ : Nat} {us : List Value} {z : Value} (hu : P.underlying t = some (.slice el)) (hs : tsz P el = some (size, by_)) (hz : tzero P el = some z)
    (hy : ev E y = some (.agg ⟨us⟩)) (hlen : Nat.ble (1 * size) 16777216 = true) (hpos : Nat.beq (1 * size) 0 = false) (hl : us.length = size) (hd : Nat.blt d n = true)
    (k : ∀ b a w, St n s a w ((d, .slice (some ⟨b, 0, none⟩) 1 1) :: E) (Blk b (.cells ⟨us⟩ el) :: L) → next a w) : (Oper.mk (some d) (.buildSlice t 1 #[(0, y)]) ty pos aft g).wp P a w next Q :=
  op_buildSlice (ps := [(0, y)]) (vs := [.agg ⟨us⟩]) (cells := us) h hu hs hz rfl (by simp [evs, hy]) hlen hpos (by simp [Value.cells]) (by simp [Value.cells, hl]) hd k
/-- a field that is a struct or an array, out of a block whose cells stand in a row -/
theorem r_ldF (h : St n s a w E L) {t : TypeId} {x : Operand} {b o sz by_ : Nat} {dd : TypeDesc} (hx : ev E x = some (.pointer (some ⟨b, o, none⟩))) (hu : P.underlying t = some dd) (hf : TypeDesc.flat dd = false) (hs : tsz P t = some (sz, by_)) (i : Nat) {vs us : List Value} {T : TypeId} {fr : Nat × Nat}
    (hi : L[i]? = some (Blk b (.cells ⟨vs⟩ T fr))) (hv : (vs.drop o).take sz = us) (hl : us.length = sz) : (execOp a.eval ⟨dst, .load t x, ty, pos, aft, g⟩).run P w = .ok (.value (.agg ⟨us⟩)) w :=
  r_loadAgg h hx hu hf hs i hi hv hl
end
end Go.Sl

/- A small library for walks, part V: regions that draw their order: what is owed while an operation is ahead of its turn. No statement is proved here. -/
namespace Go.Sl

/-- may number j come up while number i hasn't yet? -/
def may (ops : Array Oper) (j i : Nat) : Bool := match ops[j]? with
  | some o => !(o.after.any fun e => Region.binds .any e && Nat.beq e.on i)
  | none => true
/-- what is still owed when number j has come up -/
def due (ops : Array Oper) (j : Nat) (D : List (Nat × List HItem)) : List (Nat × List HItem) := D.filter fun d => may ops j d.1
def Paid (s w : World) : List (Nat × List HItem) → Prop
  | [] => True
  | d :: D => Sat s w d.2 ∧ Paid s w D
theorem Paid.mem {s w : World} : ∀ {D : List (Nat × List HItem)}, Paid s w D → ∀ d ∈ D, Sat s w d.2
  | _ :: _, h, d, hd => by
    rcases List.mem_cons.1 hd with rfl | hd
    · exact h.1
    · exact Paid.mem h.2 d hd
theorem Paid.of {s w : World} : ∀ {D : List (Nat × List HItem)}, (∀ d ∈ D, Sat s w d.2) → Paid s w D
  | [], _ => trivial
  | d :: D, h => ⟨h d (by simp), Paid.of fun d' hd' => h d' (by simp [hd'])⟩

def pickD {α : Type} : List Bool → List α → List α
  | true :: bs, d :: D => d :: pickD bs D
  | false :: bs, _ :: D => pickD bs D
  | _, _ => []
theorem Paid.nil {s w : World} : Paid s w [] := trivial
theorem Paid.cons {s w : World} {d : Nat × List HItem} {D : List (Nat × List HItem)} (h : Sat s w d.2) (hD : Paid s w D) : Paid s w (d :: D) := ⟨h, hD⟩
/-- whatever order is picked, all that is owed is kept -/
def Drawn (P : Program) (s : World) (ops : Array Oper) (Q : Exit → Act → World → Prop) : Nat → List (Nat × List HItem) → Array Bool → Act → World → Prop
  | 0, _, listed, a, w => Region.ready .any ops listed = [] ∧ Q .normal a w
  | fuel + 1, D, listed, a, w => (Region.ready .any ops listed = [] → Q .normal a w) ∧
    ∀ j ∈ Region.ready .any ops listed, wpOp P ops Q j (fun a' w' => Paid s w' (due ops j D) ∧ Drawn P s ops Q fuel (due ops j D) (listed.setIfInBounds j true) a' w') a w

section
variable {P : Program} {s : World} {ops : Array Oper} {Q : Exit → Act → World → Prop}

theorem Drawn.any : ∀ (fuel : Nat) (D : List (Nat × List HItem)) (listed : Array Bool) (a : Act) (w : World), Drawn P s ops Q fuel D listed a w → wpAny P .any ops Q fuel listed a w
  | 0, _, _, _, _, h => h
  | fuel + 1, D, _, _, _, h => ⟨h.1, fun j hj => wpOp_mono (fun _ _ h' => Drawn.any fuel _ _ _ _ h'.2) (h.2 j hj)⟩
theorem due_sub {j : Nat} {D D' : List (Nat × List HItem)} (hs : ∀ d ∈ D', d ∈ D) : ∀ d ∈ due ops j D', d ∈ due ops j D := by
  intro d hd
  simp only [due, List.mem_filter] at hd ⊢
  exact ⟨hs d hd.1, hd.2⟩
theorem Drawn.less : ∀ (fuel : Nat) (D D' : List (Nat × List HItem)) (hs : ∀ d ∈ D', d ∈ D) (listed : Array Bool) (a : Act) (w : World), Drawn P s ops Q fuel D listed a w → Drawn P s ops Q fuel D' listed a w
  | 0, _, _, _, _, _, _, h => h
  | fuel + 1, D, D', hs, _, _, _, h => ⟨h.1, fun j hj => wpOp_mono (fun _ _ h' => ⟨Paid.of fun d hd => h'.1.mem d (due_sub hs d hd), Drawn.less fuel _ _ (due_sub hs) _ _ _ h'.2⟩) (h.2 j hj)⟩

/-- an operation that may come up, taken ahead of its turn: what it leans on is owed until something that waits for it comes up -/
theorem Drawn.first {i : Nat} {oi : Oper} {v : Value} {G : List HItem} (hi : ops[i]? = some oi) (hsel : ∀ (j : Nat) (o : Oper) cs b, ops[j]? = some o → o.op ≠ .select cs b)
    (hQ : ∀ c a w, Q (.panic c) (a.put oi.dst v) w → Q (.panic c) a w) : ∀ (fuel : Nat) (D : List (Nat × List HItem)) (listed : Array Bool) (a : Act) (w : World),
      (∀ j oj, ops[j]? = some oj → j ≠ i → listed.getD j true = false → (∀ e ∈ oj.after, Region.binds .any e = true → e.on ≠ i) → oi.apart ops oj = true) →
      i ∈ Region.ready .any ops listed → YieldsIf P ops (fun w => Sat s w G) oi v a → Sat s w G → Paid s w D →
      Drawn P s ops Q fuel ((i, G) :: D) (listed.setIfInBounds i true) (a.put oi.dst v) w → Drawn P s ops Q (fuel + 1) D listed a w := by
  intro fuel
  induction fuel with
  | zero =>
    intro D listed a w _ hr hy hG hD H
    refine ⟨fun h => absurd (h ▸ hr) (by simp), fun j hj => ?_⟩
    by_cases e : j = i
    · subst e
      exact hy.wpOp hi hG ⟨Paid.of fun d hd => hD.mem d ((List.mem_filter.1 hd).1), H⟩
    · exact absurd (H.1 ▸ ready_mono hj e) (by simp)
  | succ fuel ih =>
    intro D listed a w hfree hr hy hG hD H
    refine ⟨fun h => absurd (h ▸ hr) (by simp), fun j hj => ?_⟩
    by_cases e : j = i
    · subst e
      exact hy.wpOp hi hG ⟨Paid.of fun d hd => hD.mem d ((List.mem_filter.1 hd).1), Drawn.less _ _ _ (fun d hd => List.mem_cons_of_mem _ ((List.mem_filter.1 hd).1)) _ _ _ H⟩
    · have hjr := mem_ready.1 hj
      obtain ⟨hju, oj, hoj, hall⟩ := hjr
      have hin := (mem_ready.1 hr).1
      have hwait : ∀ q ∈ oj.after, Region.binds .any q = true → q.on ≠ i := by
        intro q hq hb he
        have h1 := hall q hq hb
        rw [he] at h1
        by_cases hs : i < listed.size
        · rw [Array.getD_eq_getD_getElem?, Array.getElem?_eq_getElem hs] at h1 hin
          simp only [Option.getD_some] at h1 hin
          rw [h1] at hin; cases hin
        · rw [Array.getD_eq_getD_getElem?, Array.getElem?_eq_none (by omega)] at h1 hin
          simp only [Option.getD_none] at h1 hin
          first | cases h1 | cases hin
      have hmay : may ops j i = true := by
        simp only [may, hoj, Bool.not_eq_true', Array.any_eq_false']
        intro q hq
        have := hwait q hq
        cases hb : Region.binds .any q with
        | false => simp
        | true => simpa [Nat.beq_eq] using this hb
      have hdue : due ops j ((i, G) :: D) = (i, G) :: due ops j D := by simp [due, hmay]
      have h1 := H.2 j (ready_mono hj e)
      rw [hdue] at h1
      refine wpOp_mono (fun a' w' h3 => ⟨h3.2.1.2, ih _ _ a' w' ?_ (ready_mono hr (Ne.symm e)) h3.1 h3.2.1.1 h3.2.1.2 ?_⟩)
        (wpOp_putIf hoj (hfree j oj hoj e hju hwait) (fun cs b => hsel i oi cs b hi) (fun cs b => hsel j oj cs b hoj) hQ hy h1)
      · intro k ok hk hki hun hno
        refine hfree k ok hk hki ?_ hno
        by_cases hjk : j = k
        · subst hjk; exact hju
        · rwa [getD_set_ne true hjk] at hun
      · rw [Array.setIfInBounds_comm _ _ e]
        exact h3.2.2
/-- one that leans on nothing -/
theorem Drawn.first0 {i : Nat} {oi : Oper} {v : Value} (hi : ops[i]? = some oi) (hsel : ∀ (j : Nat) (o : Oper) cs b, ops[j]? = some o → o.op ≠ .select cs b)
    (hQ : ∀ c a w, Q (.panic c) (a.put oi.dst v) w → Q (.panic c) a w) : ∀ (fuel : Nat) (D : List (Nat × List HItem)) (listed : Array Bool) (a : Act) (w : World),
      (∀ j oj, ops[j]? = some oj → j ≠ i → listed.getD j true = false → (∀ e ∈ oj.after, Region.binds .any e = true → e.on ≠ i) → oi.apart ops oj = true) →
      i ∈ Region.ready .any ops listed → YieldsIf P ops (fun _ => True) oi v a → Paid s w D →
      Drawn P s ops Q fuel D (listed.setIfInBounds i true) (a.put oi.dst v) w → Drawn P s ops Q (fuel + 1) D listed a w := by
  intro fuel
  induction fuel with
  | zero =>
    intro D listed a w _ hr hy hD H
    refine ⟨fun h => absurd (h ▸ hr) (by simp), fun j hj => ?_⟩
    by_cases e : j = i
    · subst e
      exact hy.wpOp hi trivial ⟨Paid.of fun d hd => hD.mem d (List.mem_filter.1 hd).1, H⟩
    · exact absurd (H.1 ▸ ready_mono hj e) (by simp)
  | succ fuel ih =>
    intro D listed a w hfree hr hy hD H
    refine ⟨fun h => absurd (h ▸ hr) (by simp), fun j hj => ?_⟩
    by_cases e : j = i
    · subst e
      exact hy.wpOp hi trivial ⟨Paid.of fun d hd => hD.mem d (List.mem_filter.1 hd).1, Drawn.less _ _ _ (fun d hd => (List.mem_filter.1 hd).1) _ _ _ H⟩
    · obtain ⟨hju, oj, hoj, hall⟩ := mem_ready.1 hj
      have hin := (mem_ready.1 hr).1
      have hwait : ∀ q ∈ oj.after, Region.binds .any q = true → q.on ≠ i := by
        intro q hq hb he
        have h1 := hall q hq hb
        rw [he] at h1
        by_cases hs : i < listed.size
        · rw [Array.getD_eq_getD_getElem?, Array.getElem?_eq_getElem hs] at h1 hin
          simp only [Option.getD_some] at h1 hin
          rw [h1] at hin; cases hin
        · rw [Array.getD_eq_getD_getElem?, Array.getElem?_eq_none (by omega)] at h1 hin
          simp only [Option.getD_none] at h1 hin
          first | cases h1 | cases hin
      refine wpOp_mono (fun a' w' h3 => ⟨h3.2.1, ih _ _ a' w' ?_ (ready_mono hr (Ne.symm e)) h3.1 h3.2.1 ?_⟩)
        (wpOp_putIf hoj (hfree j oj hoj e hju hwait) (fun cs b => hsel i oi cs b hi) (fun cs b => hsel j oj cs b hoj) hQ hy (H.2 j (ready_mono hj e)))
      · intro k ok hk hki hun hno
        refine hfree k ok hk hki ?_ hno
        by_cases hjk : j = k
        · subst hjk; exact hju
        · rwa [getD_set_ne true hjk] at hun
      · rw [Array.setIfInBounds_comm _ _ e]
        exact h3.2.2
end

theorem ret_true {X : Bool} (h : X = true) : Ending.returned (.bool X) = Ending.returned (.bool true) := by rw [h]
section
variable {n : Nat} {P : Program} {s w : World} {a : Act} {E : List (Nat × Value)} {L G : List HItem} {Q : Exit → Act → World → Prop} {ops : Array Oper} {D D' : List (Nat × List HItem)} {listed listed' : Array Bool} {fuel : Nat}
variable {d : Nat} {dst : Option Nat} {ty : TypeId} {pos : String} {aft : Array Edge} {op : Op} {v : Value} {j : Nat} {b g : Bool}

theorem r_extractN (h : St n s a w E L) {x : Operand} {i : Nat} {vs : List Value} {v : Value} (hx : ev E x = some (.tuple ⟨vs⟩)) (hv : nth vs i = some v) : (execOp a.eval ⟨dst, .extract x i, ty, pos, aft, none⟩).run P w = .ok (.value v) w :=
  r_extract h hx (by rw [nth_eq] at hv; simpa using hv)
theorem c_drawn {id : Nat} {l : List Oper} (N : Nat) (hm : P.follows .mixedOrders = true) (hN : l.length = N) (h : St n s a w E L) (k : ∀ a w, St n s a w E L → Drawn P s l.toArray Q N [] (Array.replicate N false) a w) : (Code.region id l.toArray true).wp P Q a w := by
  subst hN
  refine wp_region_any hm ?_
  have := Drawn.any _ _ _ _ _ (k a { w with drawn := w.drawn + 1 } ⟨h.1, h.2.congr rfl rfl rfl rfl⟩)
  simpa using this
/-- it leans on no cell -/
theorem d_take0 (h : St n s a w E L) (hD : Paid s w D) (i : Nat) (hl : listed.setIfInBounds i true = listed') (hi : ops[i]? = some (Oper.mk (some d) op ty pos aft none)) (hs : Region.noSelect ops = true) (hf : Region.free .any ops listed i = true) (hr : (Region.ready .any ops listed).contains i = true)
    (hQ : ∀ v c a w, Q (.panic c) (a.put (some d) v) w → Q (.panic c) a w) (hrun : ∀ w, St n w a w E [] → (execOp a.eval (Oper.mk (some d) op ty pos aft none)).run P w = .ok (.value v) w) (hd : Nat.blt d n = true)
    (k : ∀ a w, St n s a w ((d, v) :: E) L → Paid s w D → Drawn P s ops Q fuel D listed' a w) : Drawn P s ops Q (fuel + 1) D listed a w := by
  subst hl
  exact Drawn.first0 (s := s) hi (Region.noSelect_spec hs) (hQ v) _ _ _ _ _ (Region.free_spec hi hf) (by simpa using hr) (.inl ⟨by simp [Region.wanted], fun w' _ => hrun w' ⟨h.1, Sat.refl w'⟩⟩) hD (k _ _ ⟨h.1.put hd v, h.2⟩ hD)
/-- it leans on these items -/
theorem d_take (h : St n s a w E L) (hD : Paid s w D) (i : Nat) (G : List HItem) (hl : listed.setIfInBounds i true = listed') (hi : ops[i]? = some (Oper.mk (some d) op ty pos aft none)) (hs : Region.noSelect ops = true) (hf : Region.free .any ops listed i = true) (hr : (Region.ready .any ops listed).contains i = true)
    (hQ : ∀ v c a w, Q (.panic c) (a.put (some d) v) w → Q (.panic c) a w) (hG : Sat s w G) (hrun : ∀ w, Sat s w G → (execOp a.eval (Oper.mk (some d) op ty pos aft none)).run P w = .ok (.value v) w) (hd : Nat.blt d n = true)
    (k : ∀ a w, St n s a w ((d, v) :: E) L → Paid s w ((i, G) :: D) → Drawn P s ops Q fuel ((i, G) :: D) listed' a w) : Drawn P s ops Q (fuel + 1) D listed a w := by
  subst hl
  exact Drawn.first (s := s) (G := G) hi (Region.noSelect_spec hs) (hQ v) _ _ _ _ _ (Region.free_spec hi hf) (by simpa using hr) (.inl ⟨by simp [Region.wanted], hrun⟩) hG hD (k _ _ ⟨h.1.put hd v, h.2⟩ ⟨hG, hD⟩)
theorem d_take0G (h : St n s a w E L) (hD : Paid s w D) (i : Nat) (hl : listed.setIfInBounds i true = listed') (hi : ops[i]? = some (Oper.mk (some d) op ty pos aft (some (j, b)))) (hs : Region.noSelect ops = true) (hf : Region.free .any ops listed i = true) (hr : (Region.ready .any ops listed).contains i = true)
    (hQ : ∀ v c a w, Q (.panic c) (a.put (some d) v) w → Q (.panic c) a w) (hg : Wants ops E j b g) (hrun : g = true → ∀ w, St n w a w E [] → (execOp a.eval (Oper.mk (some d) op ty pos aft (some (j, b)))).run P w = .ok (.value v) w) (hd : Nat.blt d n = true)
    (k : ∀ a w, St n s a w ((d, gval g v) :: E) L → Paid s w D → Drawn P s ops Q fuel D listed' a w) : Drawn P s ops Q (fuel + 1) D listed a w := by
  subst hl
  have hw := hg.wanted h.1
  cases g with
  | true => exact Drawn.first0 (s := s) hi (Region.noSelect_spec hs) (hQ v) _ _ _ _ _ (Region.free_spec hi hf) (by simpa using hr) (.inl ⟨by simp only [Region.wanted]; exact hw, fun w' _ => hrun rfl w' ⟨h.1, Sat.refl w'⟩⟩) hD (k _ _ ⟨h.1.put hd v, h.2⟩ hD)
  | false => exact Drawn.first0 (s := s) hi (Region.noSelect_spec hs) (hQ undef) _ _ _ _ _ (Region.free_spec hi hf) (by simpa using hr) (.inr ⟨by simp only [Region.wanted]; exact hw, rfl⟩) hD (k _ _ ⟨h.1.put hd undef, h.2⟩ hD)
theorem d_takeG (h : St n s a w E L) (hD : Paid s w D) (i : Nat) (G : List HItem) (hl : listed.setIfInBounds i true = listed') (hi : ops[i]? = some (Oper.mk (some d) op ty pos aft (some (j, b)))) (hs : Region.noSelect ops = true) (hf : Region.free .any ops listed i = true) (hr : (Region.ready .any ops listed).contains i = true)
    (hQ : ∀ v c a w, Q (.panic c) (a.put (some d) v) w → Q (.panic c) a w) (hG : Sat s w G) (hg : Wants ops E j b g) (hrun : g = true → ∀ w, Sat s w G → (execOp a.eval (Oper.mk (some d) op ty pos aft (some (j, b)))).run P w = .ok (.value v) w) (hd : Nat.blt d n = true)
    (k : ∀ a w, St n s a w ((d, gval g v) :: E) L → Paid s w ((i, G) :: D) → Drawn P s ops Q fuel ((i, G) :: D) listed' a w) : Drawn P s ops Q (fuel + 1) D listed a w := by
  subst hl
  have hw := hg.wanted h.1
  cases g with
  | true => exact Drawn.first (s := s) (G := G) hi (Region.noSelect_spec hs) (hQ v) _ _ _ _ _ (Region.free_spec hi hf) (by simpa using hr) (.inl ⟨by simp only [Region.wanted]; exact hw, hrun rfl⟩) hG hD (k _ _ ⟨h.1.put hd v, h.2⟩ ⟨hG, hD⟩)
  | false => exact Drawn.first (s := s) (G := G) hi (Region.noSelect_spec hs) (hQ undef) _ _ _ _ _ (Region.free_spec hi hf) (by simpa using hr) (.inr ⟨by simp only [Region.wanted]; exact hw, rfl⟩) hG hD (k _ _ ⟨h.1.put hd undef, h.2⟩ ⟨hG, hD⟩)
/-- the only one that may come up -/
theorem d_only (i : Nat) (bs : List Bool) {o : Oper} (hl : listed.setIfInBounds i true = listed') (hi : ops[i]? = some o) (hg : o.guard = none) (hr : Region.ready .any ops listed = [i]) (hd : due ops i D = pickD bs D)
    (k : o.wp P a w (fun a' w' => Paid s w' (pickD bs D) ∧ Drawn P s ops Q fuel (pickD bs D) listed' a' w') Q) : Drawn P s ops Q (fuel + 1) D listed a w := by
  subst hl; rw [← hd] at k
  refine ⟨fun h => (by rw [h] at hr; cases hr), fun q hq => ?_⟩
  rw [hr, List.mem_singleton] at hq
  subst hq
  unfold wpOp
  simp only [hi]
  rw [if_pos (by simp [Region.wanted, hg])]
  exact .inl k
/-- a guarded one: wanted, or passed by -/
theorem d_onlyG (h : St n s a w E L) (hD : Paid s w D) (i : Nat) (bs : List Bool) {o : Oper} (hl : listed.setIfInBounds i true = listed') (hi : ops[i]? = some o) (hg : o.guard = some (j, b)) (hw : Wants ops E j b g) (hr : Region.ready .any ops listed = [i]) (hd : due ops i D = pickD bs D)
    (k : g = true → o.wp P a w (fun a' w' => Paid s w' (pickD bs D) ∧ Drawn P s ops Q fuel (pickD bs D) listed' a' w') Q) (kf : g = false → Drawn P s ops Q fuel (pickD bs D) listed' (a.put o.dst undef) w) : Drawn P s ops Q (fuel + 1) D listed a w := by
  subst hl; rw [← hd] at k kf
  refine ⟨fun h => (by rw [h] at hr; cases hr), fun q hq => ?_⟩
  rw [hr, List.mem_singleton] at hq
  subst hq
  have hw' := hw.wanted h.1
  unfold wpOp
  simp only [hi]
  cases g with
  | true =>
    rw [if_pos (by simp only [Region.wanted, hg]; exact hw')]
    exact .inl (k rfl)
  | false =>
    rw [if_neg (by simp only [Region.wanted, hg]; rw [hw']; simp)]
    exact ⟨Paid.of fun d hd => hD.mem d (List.mem_filter.1 hd).1, kf rfl⟩
/-- whichever of two comes up -/
theorem d_two (i i2 : Nat) (bs bs2 : List Bool) {o o2 : Oper} {listed2 : Array Bool} (hl : listed.setIfInBounds i true = listed') (hl2 : listed.setIfInBounds i2 true = listed2) (hi : ops[i]? = some o) (hi2 : ops[i2]? = some o2) (hg : o.guard = none) (hg2 : o2.guard = none) (hr : Region.ready .any ops listed = [i, i2])
    (hd : due ops i D = pickD bs D) (hd2 : due ops i2 D = pickD bs2 D)
    (k : o.wp P a w (fun a' w' => Paid s w' (pickD bs D) ∧ Drawn P s ops Q fuel (pickD bs D) listed' a' w') Q) (k2 : o2.wp P a w (fun a' w' => Paid s w' (pickD bs2 D) ∧ Drawn P s ops Q fuel (pickD bs2 D) listed2 a' w') Q) : Drawn P s ops Q (fuel + 1) D listed a w := by
  subst hl; rw [← hd] at k; subst hl2; rw [← hd2] at k2
  refine ⟨fun h => (by rw [h] at hr; cases hr), fun q hq => ?_⟩
  rw [hr] at hq
  simp only [List.mem_cons, List.not_mem_nil, or_false] at hq
  rcases hq with rfl | rfl
  · unfold wpOp
    simp only [hi]
    rw [if_pos (by simp [Region.wanted, hg])]
    exact .inl k
  · unfold wpOp
    simp only [hi2]
    rw [if_pos (by simp [Region.wanted, hg2])]
    exact .inl k2
theorem d_pay {X : Prop} (hp : Paid s w D) (k : Paid s w D → X) : Paid s w D ∧ X := ⟨hp, k hp⟩
theorem d_done (hr : Region.ready .any ops listed = []) (h : Q .normal a w) : Drawn P s ops Q fuel D listed a w := by
  cases fuel with
  | zero => exact ⟨hr, h⟩
  | succ f => exact ⟨fun _ => h, by rw [hr]; simp⟩
end
end Go.Sl

/- A small library for walks, part W: rows of bytes of one length; structs that bear such a row, read and written by the cell. No statement is proved here. -/
namespace Go.Sl

/-- so many bytes -/
structure BA (n : Nat) where
  val : List UInt8
  len : val.length = n
@[simp] theorem BA.len' {n : Nat} (x : BA n) : x.val.length = n := x.len
theorem BA.ext' {n : Nat} {x y : BA n} (h : x.val = y.val) : x = y := by cases x; cases y; simp at h; subst h; rfl
theorem BA.inj {n : Nat} {x y : BA n} : x.val = y.val ↔ x = y := ⟨BA.ext', fun h => by rw [h]⟩
instance {n : Nat} : DecidableEq (BA n) := fun x y => if h : x.val = y.val then isTrue (BA.ext' h) else isFalse fun q => h (by rw [q])
instance {n : Nat} : Inhabited (BA n) := ⟨⟨List.replicate n 0, by simp⟩⟩
def BA.zero (n : Nat) : BA n := ⟨List.replicate n 0, by simp⟩
/-- bytes with noughts behind them -/
def BA.of (n : Nat) (p : List UInt8) : BA n := ⟨p.take n ++ List.replicate (n - p.length) 0, by simp; omega⟩
theorem BA.of_val {n : Nat} {p : List UInt8} (h : p.length = n) : (BA.of n p).val = p := by
  show p.take n ++ _ = _
  rw [List.take_of_length_le (by omega), h]; simp
def cellsA {n : Nat} (x : BA n) : List Value := bs x.val
instance {n : Nat} : Row (cellsA (n := n)) n := ⟨fun x => by rw [cellsA, bs_length, x.len], fun x => bs_one _⟩

/-- one part of a struct that is written out -/
theorem fill_step {place : Nat → Option (Nat × Nat)} {cs us : List Value} {i off size : Nat} {v : Value} {rest : List (Nat × Value)} (hp : place i = some (off, size)) (hv : v.cells = ⟨us⟩) (hu : us.length = size) (hl : off + size ≤ cs.length) :
    Instr.fill place ⟨cs⟩ ((i, v) :: rest) = Instr.fill place ⟨cs.take off ++ us ++ cs.drop (off + size)⟩ rest := by
  have hvs : v.cells.size = size := by rw [hv]; exact hu
  rw [Instr.fill]
  simp only [hp]
  rw [if_neg (by rw [hvs]; simp; exact hl)]
  have hf : v.cells.zipIdx.foldl (fun cs (x : Value × Nat) => cs.setIfInBounds (off + x.2) x.1) (⟨cs⟩ : Array Value) = ⟨cs.take off ++ us ++ cs.drop (off + size)⟩ := by
    apply Array.ext'
    have := cells_zipIdx off us 0 ⟨cs⟩ (by show off + 0 + us.length ≤ cs.length; omega)
    rw [hv, ← Array.foldl_toList, Array.toList_zipIdx]
    simp only [Nat.add_zero, hu] at this
    exact this
  exact congrArg (fun q => Instr.fill place q rest) hf
theorem splice_zero (n : Nat) (m : List UInt8) : splice ⟨bs (List.replicate n 0)⟩ 0 (bs (m.take n)) = ⟨cellsA (BA.of n m)⟩ := by
  have e : (bs (m.take n)).length = min n m.length := by rw [bs_length, List.length_take]
  unfold splice
  rw [e]
  show (([] : List Value) ++ bs (m.take n) ++ (bs (List.replicate n 0)).drop (0 + min n m.length)).toArray = (bs (m.take n ++ List.replicate (n - m.length) 0)).toArray
  rw [bs_append, List.nil_append, Nat.zero_add, bs_drop, List.drop_replicate, show n - min n m.length = n - m.length by omega]

/-- a cell of a row of cells, found by the row's form -/
class CellAt (vs : List Value) (o : Nat) (v : outParam Value) : Prop where
  get : vs[o]? = some v
class SetAt (vs : List Value) (o : Nat) (v : Value) (vs' : outParam (List Value)) : Prop where
  lt : o < vs.length
  set : vs.set o v = vs'

theorem flatMap_take {α : Type} {size : Nat} {cells : α → List Value} [Row cells size] : ∀ (l : List α) (k : Nat), (l.flatMap cells).take (k * size) = (l.take k).flatMap cells
  | l, 0 => by simp
  | [], k + 1 => by simp
  | x :: l, k + 1 => by
    rw [List.flatMap_cons, List.take_succ_cons, List.flatMap_cons, Nat.add_mul, Nat.one_mul, Nat.add_comm, List.take_append, Row.len (size := size) x, Nat.add_sub_cancel_left, flatMap_take l k, List.take_of_length_le (by rw [Row.len (size := size) x]; omega)]

section
variable {P : Program} {n : Nat} {s w : World} {a : Act} {E : List (Nat × Value)} {L : List HItem} {Q : Exit → Act → World → Prop} {next : Act → World → Prop}
variable {d : Nat} {dst : Option Nat} {ty : TypeId} {pos : String} {aft : Array Edge} {g : Option (Nat × Bool)}

theorem r_elMd {α : Type} [Inhabited α] {size : Nat} {cells : α → List Value} [Row cells size] (h : St n s a w E L) {t : TypeId} {x : Operand} {j by_ N : Nat} {v : Value} {l : List α} {dd : TypeDesc} (hx : ev E x = some (elP v (j * size))) (hu : P.underlying t = some dd) (hf : TypeDesc.flat dd = false) (hs : tsz P t = some (size, by_))
    (h0 : Nat.blt 0 size = true) (hv : Views L size v N (l.flatMap cells)) (hj : j < l.length) : (execOp a.eval ⟨dst, .load t x, ty, pos, aft, g⟩).run P w = .ok (.value (.agg ⟨cells (l.getD j default)⟩)) w :=
  r_elM h hx hu hf hs h0 hv (by rw [List.getD_eq_getElem?_getD, List.getElem?_eq_getElem hj]; rfl)
theorem r_ldC (h : St n s a w E L) {t : TypeId} {x : Operand} {b o : Nat} {dd : TypeDesc} {vs : List Value} {v : Value} [CellAt vs o v] (hx : ev E x = some (.pointer (some ⟨b, o, none⟩))) (hu : P.underlying t = some dd) (hf : TypeDesc.flat dd = true) (i : Nat) {T : TypeId} {fr : Nat × Nat}
    (hi : L[i]? = some (Blk b (.cells ⟨vs⟩ T fr))) : (execOp a.eval ⟨dst, .load t x, ty, pos, aft, g⟩).run P w = .ok (.value v) w :=
  r_load h hx hu hf i hi (by simpa using CellAt.get)
theorem op_storeC (h : St n s a w E L) {t : TypeId} {x y : Operand} {b o by_ : Nat} {v : Value} {vs vs' : List Value} [hc : SetAt vs o v vs'] (hx : ev E x = some (.pointer (some ⟨b, o, none⟩))) (hy : ev E y = some v) (hs : tsz P t = some (1, by_)) (h1 : v.oneCell' = true)
    (i : Nat) {T : TypeId} (hi : L[i]? = some (Blk b (.cells ⟨vs⟩ T)))
    (k : ∀ a w, St n s a w E (L.set i (Blk b (.cells ⟨vs'⟩ T))) → next a w) : (Oper.mk none (.store t x y) ty pos aft g).wp P a w next Q :=
  op_storeN h hx hy hs h1 i hi (Nat.ble_eq_true_of_le hc.lt) fun a w h => k a w (by rw [hc.set] at h; exact h)
/-- the array of bytes that a block begins with -/
theorem r_ldH8 (h : St n s a w E L) {t : TypeId} {x : Operand} {b sz by_ : Nat} {dd : TypeDesc} (hx : ev E x = some (.pointer (some ⟨b, 0, none⟩))) (hu : P.underlying t = some dd) (hf : TypeDesc.flat dd = false) (hs : tsz P t = some (sz, by_)) (i : Nat) {m : List UInt8} {r : List Value} {T : TypeId} {fr : Nat × Nat}
    (hi : L[i]? = some (Blk b (.cells ⟨bs m ++ r⟩ T fr))) (hl : m.length = sz) : (execOp a.eval ⟨dst, .load t x, ty, pos, aft, g⟩).run P w = .ok (.value (.agg (arr8 m))) w :=
  r_loadAgg h hx hu hf hs i hi (us := bs m) (by show ((bs m ++ r).drop 0).take sz = _; rw [List.drop_zero, List.take_left' (by rw [bs_length, hl])]) (by rw [bs_length, hl])
/-- the bytes that a block begins with, through a slice of them -/
theorem ViewsB.head {b N cap : Nat} {l : List UInt8} {r : List Value} {T : TypeId} {fr : Nat × Nat} (i : Nat) (hi : L[i]? = some (Blk b (.cells ⟨bs l ++ r⟩ T fr))) (hl : l.length = N) (hc : N ≤ cap) (hm : cap ≤ maxLen) : ViewsB L (.slice (some ⟨b, 0, none⟩) N cap) l := by
  subst hl
  exact Views.blk i hi (Nat.ble_eq_true_of_le hc) (Nat.ble_eq_true_of_le hm) (by
    show ((bs l ++ r).drop 0).take (l.length * 1) = bs l
    rw [List.drop_zero, Nat.mul_one, List.take_left' (bs_length l)]) (by rw [bs_length, Nat.mul_one])
end
end Go.Sl

/- A small library for walks, part X: what comes in, by its form: numbers, texts, arrays, structs, rows of them. No statement is proved here. -/
namespace Go.Sl
open Go.ChangeShapes Go.WideShapes Go.ChangeAt Go.RowKit

section
variable {P : Program} {H : Type} {enc : TypeId × Value → H} {W : World} {base b0 : Nat} {r : Reach}

/-- whatever is trodden at this type has these cells, for some thing of which φ holds -/
def Opn (P : Program) {H : Type} (enc : TypeId × Value → H) (W : World) {α : Type} (cells : α → List Value) (φ : α → Prop) (t : TypeId) : Prop :=
  ∀ (base fuel : Nat) (cs : List Value) (x : DataW H × List MemPlace), DataW.trod enc P W base (fun _ => true) true fuel t cs = some x → ∃ a, cs = cells a ∧ φ a

theorem opn_u8 {t : TypeId} (ht : P.underlying t = some (.int .u8)) : Opn P enc W (fun b : UInt8 => [bv b]) (fun _ => True) t := by
  intro base fuel cs x h
  obtain ⟨n, rfl, _, wf⟩ := DataW.trod_int ht h
  have hw : 0 ≤ n ∧ n ≤ 255 := by simpa [Lit.wf, IntKind.min, IntKind.max, IntKind.signed, IntKind.bits] using wf
  exact ⟨UInt8.ofNat n.toNat, by rw [u8_of hw], trivial⟩
theorem opn_i64 {t : TypeId} (ht : P.underlying t = some (.int .i64)) : Opn P enc W (fun n : Int => [.int .i64 n]) (fun n => -9223372036854775808 ≤ n ∧ n ≤ 9223372036854775807) t := by
  intro base fuel cs x h
  obtain ⟨n, rfl, _, wf⟩ := DataW.trod_int ht h
  exact ⟨n, rfl, by simpa [Lit.wf, IntKind.min, IntKind.max, IntKind.signed, IntKind.bits] using wf⟩
theorem opn_str {t : TypeId} (ht : P.underlying t = some .string) : Opn P enc W (fun l : List UInt8 => [sv l]) (fun l => l.length ≤ maxLen) t := by
  intro base fuel cs x h
  obtain ⟨s, rfl, _, hl⟩ := DataW.trod_string ht h
  refine ⟨s.data.toList, rfl, ?_⟩
  have e : s.size = s.data.toList.length := by rw [Array.length_toList]; rfl
  show s.data.toList.length ≤ maxLen
  rw [← e]; exact hl
theorem opn_arr8 {t e : TypeId} {N : Nat} (ht : P.underlying t = some (.array N e)) (he : P.underlying e = some (.int .u8)) (hc : P.cellsOf e = 1) (hct : P.cellsOf t = N) : Opn P enc W (cellsA (n := N)) (fun _ => True) t := by
  intro base fuel cs x h
  have hcl : cs.length = N := by
    cases fuel with
    | zero => simp [DataW.trod] at h
    | succ m =>
      rw [DataW.trod_step] at h
      unfold DataW.trodStep at h
      simp only [ht] at h
      split at h
      · rename_i q; rw [q, hct]
      · cases h
  obtain ⟨l, hl, hN⟩ := arr8_of_trod ht he hc hcl h
  exact ⟨⟨l, hN⟩, hl, trivial⟩
theorem list_of {α : Type} (R : Nat → α → Prop) : ∀ n : Nat, (∀ i, i < n → ∃ a, R i a) → ∃ l : List α, l.length = n ∧ ∀ i a, l[i]? = some a → R i a
  | 0, _ => ⟨[], rfl, by simp⟩
  | n + 1, h => by
    obtain ⟨l, hl, hR⟩ := list_of R n (fun i hi => h i (by omega))
    obtain ⟨a, ha⟩ := h n (by omega)
    refine ⟨l ++ [a], by simp [hl], fun i b hb => ?_⟩
    rw [List.getElem?_append] at hb
    split at hb
    · exact hR i b hb
    · rename_i q
      have hi : i = n := by
        have := (List.getElem?_eq_some_iff.1 hb).1
        simp at this; omega
      subst hi
      rw [hl, Nat.sub_self] at hb
      simp at hb; subst hb; exact ha
theorem add_two (a : Addr) (m k : Nat) : (a.add m).add k = a.add (m + k) := by
  unfold Addr.add
  by_cases h1 : m = 0
  · subst h1; simp
  · by_cases h2 : k = 0
    · subst h2; simp
    · simp [h1, h2, Nat.add_assoc]
/-- a struct of three fields that lie so -/
theorem opn_struct3 {α β γ : Type} {ca : α → List Value} {cb : β → List Value} {cc : γ → List Value} {φ : α → Prop} {ψ : β → Prop} {χ : γ → Prop} {t : TypeId} {f0 f1 f2 : Field} {n0 n1 n2 : Nat} (ht : P.underlying t = some (.struct #[f0, f1, f2])) (hc : P.cellsOf t = n0 + n1 + n2)
    (h0 : f0.offset = 0 ∧ P.cellsOf f0.type = n0) (h1 : f1.offset = n0 ∧ P.cellsOf f1.type = n1) (h2 : f2.offset = n0 + n1 ∧ P.cellsOf f2.type = n2) (oa : Opn P enc W ca φ f0.type) (ob : Opn P enc W cb ψ f1.type) (oc : Opn P enc W cc χ f2.type) :
    Opn P enc W (fun x : α × β × γ => ca x.1 ++ cb x.2.1 ++ cc x.2.2) (fun x => φ x.1 ∧ ψ x.2.1 ∧ χ x.2.2) t := by
  intro base fuel cs x h
  obtain ⟨y0, y1, y2, n, _, hl, g0, g1, g2⟩ := Go.Deep.trod_struct3 ht h
  obtain ⟨a, ha, hφ⟩ := oa _ _ _ _ g0
  obtain ⟨b, hb, hψ⟩ := ob _ _ _ _ g1
  obtain ⟨c, hcc, hχ⟩ := oc _ _ _ _ g2
  rw [h0.1, h0.2, List.drop_zero] at ha
  rw [h1.1, h1.2] at hb
  rw [h2.1, h2.2] at hcc
  rw [hc] at hl
  refine ⟨(a, b, c), ?_, hφ, hψ, hχ⟩
  show cs = ca a ++ cb b ++ cc c
  rw [← ha, ← hb, ← hcc, ← List.take_add, ← List.take_add, List.take_of_length_le (by omega)]
/-- a slice -/
theorem opn_slice {α : Type} {cells : α → List Value} {φ : α → Prop} {t e : TypeId} {size : Nat} (ht : P.underlying t = some (.slice e)) (hce : P.cellsOf e = size) (hsz : 0 < size) (hl : ∀ a, (cells a).length = size) (he : Opn P enc W cells φ e) :
    Opn P enc W (fun x : Value × List α => [x.1]) (fun x => Views [Base W] size x.1 x.2.length (x.2.flatMap cells) ∧ ∀ a ∈ x.2, φ a) t := by
  intro base fuel cs x h
  rcases DataW.trod_slice ht h with ⟨rfl, _⟩ | ⟨A, len, cap, elems, rest, n, _, rfl, _, hb, hlc, hcm, hel, hget, _, _⟩
  · exact ⟨(.slice none 0 0, []), rfl, Views.nil _ _, by simp⟩
  · obtain ⟨l, hll, hR⟩ := list_of (fun i a => (∀ j u, (cells a)[j]? = some u → W.cell? (A.add (i * size + j)) = some u) ∧ φ a) len (fun i hi => by
      have hg := hget i hi
      have hi2 : i < elems.length := by omega
      rw [List.getElem?_eq_getElem hi2, hce, Option.bind_eq_some_iff] at hg
      obtain ⟨c, hc1, hc2⟩ := hg
      obtain ⟨a, rfl, ha⟩ := he base n c _ hc2
      obtain ⟨_, _, hc3⟩ := World.cells?_some hc1
      refine ⟨a, fun j u hj => ?_, ha⟩
      have hjs : j < size := by
        have := (List.getElem?_eq_some_iff.1 hj).1
        rwa [hl] at this
      rw [← add_two, hc3 j hjs, hj])
    have hfl : (l.flatMap cells).length = len * size := by
      rw [← hll]
      clear hR hll
      induction l with
      | nil => simp
      | cons y l ih => rw [List.flatMap_cons, List.length_append, hl, ih, List.length_cons, Nat.add_mul, Nat.one_mul, Nat.add_comm]
    refine ⟨(.slice (some A) len cap, l), rfl, ?_, fun a ha => ?_⟩
    · show Views [Base W] size (.slice (some A) len cap) l.length (l.flatMap cells)
      rw [hll]
      refine Views.base (RDh.of_cells hfl hlc hcm hsz fun j u hj => ?_)
      have hjl : j < len * size := by rw [← hfl]; exact (List.getElem?_eq_some_iff.1 hj).1
      have hi : j / size < len := by rw [Nat.div_lt_iff_lt_mul hsz]; exact hjl
      obtain ⟨a, ha⟩ : ∃ a, l[j / size]? = some a := ⟨l[j / size]'(by omega), by simp⟩
      have h1 := flatMap_get hl l (j / size) a ha
      have hm : j % size < size := Nat.mod_lt _ hsz
      have hjd : j / size * size + j % size = j := Nat.div_add_mod' j size
      have h2 : (cells a)[j % size]? = some u := by
        rw [← h1, List.getElem?_take, if_pos hm, List.getElem?_drop, hjd]; exact hj
      have := (hR _ a ha).1 _ u h2
      rwa [hjd] at this
    · obtain ⟨i, hi, rfl⟩ := List.mem_iff_getElem.1 ha
      exact (hR i _ (by simp)).2
/-- an argument -/
theorem opn_arg {α : Type} {cells : α → List Value} {φ : α → Prop} {t : TypeId} {v : Value} {d : DataW H} {ps : List MemPlace} (ho : Opn P enc W cells φ t) (hd : DataW.Trod enc P W base (fun _ => true) true t v d ps) : ∃ a, v.cells.toList = cells a ∧ φ a := by
  obtain ⟨fuel, hf⟩ := hd
  exact ho _ fuel _ _ hf
/-- one that is a struct -/
theorem opn_agg {α : Type} {cells : α → List Value} {φ : α → Prop} {t : TypeId} {fs : Array Field} {v : Value} {d : DataW H} {ps : List MemPlace} (ht : P.underlying t = some (.struct fs)) (hval : Value.okWide P W r b0 t v) (ho : Opn P enc W cells φ t) (hd : DataW.Trod enc P W base (fun _ => true) true t v d ps) :
    ∃ a, v = .agg ⟨cells a⟩ ∧ φ a := by
  simp only [Value.okWide, ht] at hval
  obtain ⟨cs, rfl, _, _⟩ := hval
  obtain ⟨a, ha, hφ⟩ := opn_arg ho hd
  refine ⟨a, ?_, hφ⟩
  have : cs = ⟨cells a⟩ := by apply Array.ext'; exact ha
  rw [this]
end
end Go.Sl

/- A small library for walks, part Y: guarded operations that are passed by; slices written out of things of one cell. No statement is proved here. -/
namespace Go.Sl

section
variable {n : Nat} {P : Program} {s w : World} {a : Act} {E : List (Nat × Value)} {L G : List HItem} {Q : Exit → Act → World → Prop} {ops : Array Oper} {D : List (Nat × List HItem)} {listed listed' : Array Bool} {fuel : Nat} {rest : List Oper} {next : Act → World → Prop}
variable {d : Nat} {dst : Option Nat} {ty : TypeId} {pos : String} {aft : Array Edge} {op : Op} {j : Nat} {b g : Bool}

theorem wvS (h : St n s a w E L) (hg : Wants ops E j b g) (hf : g = false) (hd : Nat.blt d n = true) (k : ∀ a w, St n s a w ((d, undef) :: E) L → wpList P ops Q rest a w) : wpList P ops Q (Oper.mk (some d) op ty pos aft (some (j, b)) :: rest) a w :=
  wvG (v := undef) h hg (fun q => by rw [hf] at q; cases q) hd fun a w h => k a w (by subst hf; exact h)
theorem qvS {QQ : Act → Prop} (hE : Env n a E) (hg : Wants ops E j b g) (hf : g = false) (hd : Nat.blt d n = true) (k : ∀ a, Env n a ((d, undef) :: E) → wpQuiet P ops (fun w => Sat s w L) QQ rest a) : wpQuiet P ops (fun w => Sat s w L) QQ (Oper.mk (some d) op ty pos aft (some (j, b)) :: rest) a :=
  qvG (v := undef) hE hg (fun q => by rw [hf] at q; cases q) hd fun a h => k a (by subst hf; exact h)
theorem d_skipQ (h : St n s a w E L) (hD : Paid s w D) (i : Nat) (hl : listed.setIfInBounds i true = listed') (hi : ops[i]? = some (Oper.mk (some d) op ty pos aft (some (j, b)))) (hs : Region.noSelect ops = true) (hf : Region.free .any ops listed i = true) (hr : (Region.ready .any ops listed).contains i = true)
    (hQ : ∀ v c a w, Q (.panic c) (a.put (some d) v) w → Q (.panic c) a w) (hg : Wants ops E j b g) (hff : g = false) (hd : Nat.blt d n = true)
    (k : ∀ a w, St n s a w ((d, undef) :: E) L → Paid s w D → Drawn P s ops Q fuel D listed' a w) : Drawn P s ops Q (fuel + 1) D listed a w :=
  d_take0G (v := undef) h hD i hl hi hs hf hr hQ hg (fun q => by rw [hff] at q; cases q) hd fun a w h => k a w (by subst hff; exact h)
theorem Sat.none {s w : World} {L : List HItem} (h : Sat s w L) : Sat s w [] := ⟨h.1, h.2.1, h.2.2.1, trivial⟩
theorem d_skipF (h : St n s a w E L) (hD : Paid s w D) (i : Nat) (hl : listed.setIfInBounds i true = listed') (hi : ops[i]? = some (Oper.mk (some d) op ty pos aft (some (j, b)))) (hs : Region.noSelect ops = true) (hf : Region.free .any ops listed i = true) (hr : (Region.ready .any ops listed).contains i = true)
    (hQ : ∀ v c a w, Q (.panic c) (a.put (some d) v) w → Q (.panic c) a w) (hg : Wants ops E j b g) (hff : g = false) (hd : Nat.blt d n = true)
    (k : ∀ a w, St n s a w ((d, undef) :: E) L → Paid s w ((i, []) :: D) → Drawn P s ops Q fuel ((i, []) :: D) listed' a w) : Drawn P s ops Q (fuel + 1) D listed a w :=
  d_takeG (v := undef) h hD i [] hl hi hs hf hr hQ h.2.none hg (fun q => by rw [hff] at q; cases q) hd fun a w h => k a w (by subst hff; exact h)
theorem d_skipG (h : St n s a w E L) (hD : Paid s w D) (i : Nat) (bs : List Bool) (hl : listed.setIfInBounds i true = listed') (hi : ops[i]? = some (Oper.mk (some d) op ty pos aft (some (j, b)))) (hw : Wants ops E j b g) (hff : g = false) (hr : Region.ready .any ops listed = [i]) (hd : due ops i D = pickD bs D) (hdn : Nat.blt d n = true)
    (k : ∀ a w, St n s a w ((d, undef) :: E) L → Paid s w (pickD bs D) → Drawn P s ops Q fuel (pickD bs D) listed' a w) : Drawn P s ops Q (fuel + 1) D listed a w :=
  d_onlyG h hD i bs hl hi rfl hw hr hd (fun q => by rw [hff] at q; cases q) fun _ => k _ _ ⟨h.1.put hdn undef, h.2⟩ (by rw [← hd]; exact Paid.of fun x hx => hD.mem x (List.mem_filter.1 hx).1)
/-- a slice written out of things of one cell -/
theorem op_buildO (h : St n s a w E L) {t el : TypeId} {len by_ : Nat} {ps : List (Nat × Operand)} {vs : List Value} {z : Value} (hu : P.underlying t = some (.slice el)) (hs : tsz P el = some (1, by_)) (hz : tzero P el = some z)
    (hi : ps.map (fun p => p.1) = List.range' 0 len) (hx : evs E (ps.map fun p => p.2) = some vs) (hlen : Nat.ble len 16777216 = true) (hpos : Nat.beq len 0 = false) (h1 : ∀ v ∈ vs, v.oneCell' = true) (hd : Nat.blt d n = true)
    (k : ∀ b a w, St n s a w ((d, .slice (some ⟨b, 0, none⟩) len len) :: E) (Blk b (.cells ⟨vs⟩ el) :: L) → next a w) {g : Option (Nat × Bool)} : (Oper.mk (some d) (.buildSlice t len ps.toArray) ty pos aft g).wp P a w next Q := by
  have hone : ∀ v : Value, v.oneCell' = true → v.cells = #[v] := fun v hv => by cases v <;> simp_all [Value.oneCell', Value.cells]
  have hc : ∀ vs : List Value, (∀ v ∈ vs, v.oneCell' = true) → vs.flatMap (fun v => v.cells.toList) = vs := by
    intro vs
    induction vs with
    | nil => intro _; rfl
    | cons v vs ih => intro q; rw [List.flatMap_cons, ih (fun u hu => q u (by simp [hu])), hone v (q v (by simp))]; rfl
  exact op_buildSlice (cells := vs) h hu hs hz hi hx (by rw [Nat.mul_one]; exact hlen) (by rw [Nat.mul_one]; exact hpos) (hc vs h1) (fun v hv => by rw [hone v (h1 v hv)]; rfl) hd k
end
end Go.Sl

/- A small library for walks, part Z: structs of one cell a field: compared, and as they come in. No statement is proved here. -/
namespace Go.Sl
open Go.ChangeShapes Go.WideShapes Go.ChangeAt Go.RowKit

section
variable {P : Program} {n : Nat} {s w : World} {a : Act} {E : List (Nat × Value)} {L : List HItem} {ty : TypeId} {pos : String} {dst : Option Nat} {aft : Array Edge} {g : Option (Nat × Bool)}

/-- the fields of two structs, side by side: are they alike? -/
inductive FlatEq (P : Program) : List Field → Nat → List Value → List Value → Bool → Prop
  | nil {o : Nat} : FlatEq P [] o [] [] true
  | int {f : Field} {fs : List Field} {o : Nat} {us vs : List Value} {b : Bool} {k : IntKind} {x y : Int} (hu : P.underlying f.type = some (.int k)) (ho : f.offset = o) (hn : (f.name != "_") = true) (h : FlatEq P fs (o + 1) us vs b) :
      FlatEq P (f :: fs) o (.int k x :: us) (.int k y :: vs) (decide (x = y) && b)
  | str {f : Field} {fs : List Field} {o : Nat} {us vs : List Value} {b : Bool} {l m : List UInt8} (hu : P.underlying f.type = some .string) (ho : f.offset = o) (hn : (f.name != "_") = true) (h : FlatEq P fs (o + 1) us vs b) :
      FlatEq P (f :: fs) o (sv l :: us) (sv m :: vs) (decide (l = m) && b)

theorem run_part1 {t : TypeId} {dd : TypeDesc} (hu : P.underlying t = some dd) (hf : TypeDesc.flat dd = true) {xs : Array Value} {o : Nat} {v : Value} (hv : xs[o]? = some v) (w : World) : (part t xs o).run P w = .ok v w := by
  simp [part, run_isAgg hu, hf, hv]
theorem run_eqFields {d : Nat} {w : World} : ∀ {fs : List Field} {o : Nat} {us vs : List Value} {b : Bool}, FlatEq P fs o us vs b → ∀ {xs ys : Array Value}, (∀ i u, us[i]? = some u → xs[o + i]? = some u) → (∀ i u, vs[i]? = some u → ys[o + i]? = some u) →
    (Op.eqFields (d + 1) xs ys fs).run P w = .ok b w := by
  intro fs o us vs b h
  induction h with
  | nil => intro xs ys _ _; simp [Op.eqFields]
  | @int f fs o us vs b k x y hu ho hn h ih =>
    intro xs ys hx hy
    have e1 : xs[f.offset]? = some (.int k x) := by rw [ho]; exact hx 0 _ rfl
    have e2 : ys[f.offset]? = some (.int k y) := by rw [ho]; exact hy 0 _ rfl
    have ih2 := ih (xs := xs) (ys := ys) (fun i u hi => by rw [show o + 1 + i = o + (i + 1) by omega]; exact hx (i + 1) u hi) (fun i u hi => by rw [show o + 1 + i = o + (i + 1) by omega]; exact hy (i + 1) u hi)
    have hn' : f.name ≠ "_" := by simpa using hn
    rw [Op.eqFields, if_pos hn']
    simp only [Sem.run_bind, run_part1 hu rfl e1, run_part1 hu rfl e2, Result.andThen_ok, run_equalIn_int w d f.type k k x y hu]
    by_cases q : x = y
    · subst q; simp [ih2]
    · have hb : (x == y) = false := by simpa using q
      simp [hb, q]
  | @str f fs o us vs b l m hu ho hn h ih =>
    intro xs ys hx hy
    have e1 : xs[f.offset]? = some (.string ⟨⟨l⟩⟩) := by rw [ho]; exact hx 0 _ rfl
    have e2 : ys[f.offset]? = some (.string ⟨⟨m⟩⟩) := by rw [ho]; exact hy 0 _ rfl
    have ih2 := ih (xs := xs) (ys := ys) (fun i u hi => by rw [show o + 1 + i = o + (i + 1) by omega]; exact hx (i + 1) u hi) (fun i u hi => by rw [show o + 1 + i = o + (i + 1) by omega]; exact hy (i + 1) u hi)
    have hn' : f.name ≠ "_" := by simpa using hn
    rw [Op.eqFields, if_pos hn']
    simp only [Sem.run_bind, run_part1 hu rfl e1, run_part1 hu rfl e2, Result.andThen_ok, run_equalIn_string w d f.type _ _ hu, ByteArray.toList_eq]
    by_cases q : l = m
    · subst q; simp [ih2]
    · have hb : (l == m) = false := by simpa using q
      simp [hb, q]
theorem run_equal_flat {t : TypeId} {us vs : List Value} {b : Bool} (ht : P.underlying t = some (.struct (P.fieldsOf t))) (hp : P.stoodInHeld t = false) (h : FlatEq P (P.fieldsOf t).toList 0 us vs b) (w : World) :
    (Op.equal t (.agg ⟨us⟩) (.agg ⟨vs⟩)).run P w = .ok b w := by
  show (Op.equalIn (9999 + 1) t (.agg ⟨us⟩) (.agg ⟨vs⟩)).run P w = _
  rw [run_equalIn_struct w 9999 t _ _ ht hp]
  exact run_eqFields h (fun i u hi => by rw [Nat.zero_add]; simpa using hi) (fun i u hi => by rw [Nat.zero_add]; simpa using hi)
theorem r_streq2 (h : St n s a w E L) {xt yt : TypeId} {x y : Operand} {us vs : List Value} {b : Bool} (hx : ev E x = some (.agg ⟨us⟩)) (hy : ev E y = some (.agg ⟨vs⟩)) (ht : P.underlying xt = some (.struct (P.fieldsOf xt))) (hp : P.stoodInHeld xt = false)
    (hm : P.eqGuardType P.depth xt = false) (hq : FlatEq P (P.fieldsOf xt).toList 0 us vs b) : (execOp a.eval ⟨dst, .binOp .eql xt x y yt, ty, pos, aft, g⟩).run P w = .ok (.value (.bool b)) w := by
  refine r_binv h hx hy (fun w => ⟨run_eqGuard_agg w _ _ _ _ _ _ hm, ?_⟩)
  show ((Op.equal xt (.agg ⟨us⟩) (.agg ⟨vs⟩) >>= fun r => pure (Value.bool r)).run P w) = _
  rw [Sem.run_bind, run_equal_flat ht hp hq]
  rfl
theorem r_strne2 (h : St n s a w E L) {xt yt : TypeId} {x y : Operand} {us vs : List Value} {b : Bool} (hx : ev E x = some (.agg ⟨us⟩)) (hy : ev E y = some (.agg ⟨vs⟩)) (ht : P.underlying xt = some (.struct (P.fieldsOf xt))) (hp : P.stoodInHeld xt = false)
    (hm : P.eqGuardType P.depth xt = false) (hq : FlatEq P (P.fieldsOf xt).toList 0 us vs b) : (execOp a.eval ⟨dst, .binOp .neq xt x y yt, ty, pos, aft, g⟩).run P w = .ok (.value (.bool (!b))) w := by
  refine r_binv h hx hy (fun w => ⟨run_eqGuard_agg w _ _ _ _ _ _ hm, ?_⟩)
  show ((Op.equal xt (.agg ⟨us⟩) (.agg ⟨vs⟩) >>= fun r => pure (Value.bool (!r))).run P w) = _
  rw [Sem.run_bind, run_equal_flat ht hp hq]
  rfl
end

section
variable {P : Program} {H : Type} {enc : TypeId × Value → H} {W : World} {base b0 : Nat} {r : Reach}
/-- a struct of one cell a field: what is trodden at each -/
theorem trod_flat {t : TypeId} {fs : Array Field} {sp : Nat → Bool} {held : Bool} {fuel : Nat} {cs : List Value} {x : DataW H × List MemPlace} (ht : P.underlying t = some (.struct fs)) (hc : P.cellsOf t = fs.size) (h : DataW.trod enc P W base sp held fuel t cs = some x) :
    cs.length = fs.size ∧ ∀ (i : Nat) (f : Field), fs[i]? = some f → f.offset = i → P.cellsOf f.type = 1 → ∃ v y m, cs[i]? = some v ∧ DataW.trod enc P W base sp held m f.type [v] = some y := by
  obtain ⟨xs, m, _, rfl, hl, hlen, hf⟩ := DataW.trod_struct ht h
  have hl2 : cs.length = fs.size := by rw [hl, hc]
  refine ⟨hl2, fun i f hi ho h1 => ?_⟩
  have hlt : i < fs.size := (Array.getElem?_eq_some_iff.1 hi).1
  have hg := hf i f (by simpa using hi)
  rw [ho, h1] at hg
  have e : (cs.drop i).take 1 = [cs[i]'(by omega)] := by
    rw [List.drop_eq_getElem_cons (by omega)]; rfl
  rw [e, List.getElem?_eq_getElem (by omega)] at hg
  exact ⟨cs[i]'(by omega), _, m, by simp, hg⟩
end
end Go.Sl

/- The small library for walks, all of it. -/

/- Facts on the functions and types of this cut, by stable names; each is checked by reckoning. -/
namespace Go.Proofs.K
open Go.Sl
noncomputable abbrev P : Program := Tryd.prog
theorem mixed : P.follows .mixedOrders = true := by kernel_rfl
abbrev n_law16_PackObjects : Nat := 3
theorem fn_law16_PackObjects : P.funcs[3]? = some Tryd.f3 := Tryd.func3
theorem nt_law16_PackObjects : Tryd.f3.ntmps = 111 := Tryd.ntmps3
theorem go_law16_PackObjects : isGo P 3 = true := by kernel_rfl
abbrev n_law16_PackReads : Nat := 4
theorem fn_law16_PackReads : P.funcs[4]? = some Tryd.f4 := Tryd.func4
theorem nt_law16_PackReads : Tryd.f4.ntmps = 134 := Tryd.ntmps4
theorem go_law16_PackReads : isGo P 4 = true := by kernel_rfl
abbrev n_law16_PackErrs : Nat := 5
theorem fn_law16_PackErrs : P.funcs[5]? = some Tryd.f5 := Tryd.func5
theorem nt_law16_PackErrs : Tryd.f5.ntmps = 120 := Tryd.ntmps5
theorem go_law16_PackErrs : isGo P 5 = true := by kernel_rfl
abbrev n_law16_PackOne : Nat := 6
theorem fn_law16_PackOne : P.funcs[6]? = some Tryd.f6 := Tryd.func6
theorem nt_law16_PackOne : Tryd.f6.ntmps = 48 := Tryd.ntmps6
theorem go_law16_PackOne : isGo P 6 = true := by kernel_rfl
abbrev n_law16_awake : Nat := 7
theorem fn_law16_awake : P.funcs[7]? = some Tryd.f7 := Tryd.func7
theorem nt_law16_awake : Tryd.f7.ntmps = 40 := Tryd.ntmps7
theorem go_law16_awake : isGo P 7 = true := by kernel_rfl
abbrev n_pack_Encode : Nat := 8
theorem fn_pack_Encode : P.funcs[8]? = some Tryd.f8 := Tryd.func8
theorem nt_pack_Encode : Tryd.f8.ntmps = 92 := Tryd.ntmps8
theorem go_pack_Encode : isGo P 8 = true := by kernel_rfl
abbrev n_pack_Decode : Nat := 9
theorem fn_pack_Decode : P.funcs[9]? = some Tryd.f9 := Tryd.func9
theorem nt_pack_Decode : Tryd.f9.ntmps = 60 := Tryd.ntmps9
theorem go_pack_Decode : isGo P 9 = true := by kernel_rfl
abbrev n_ref15_Sorted : Nat := 10
theorem fn_ref15_Sorted : P.funcs[10]? = some Tryd.f10 := Tryd.func10
theorem nt_ref15_Sorted : Tryd.f10.ntmps = 74 := Tryd.ntmps10
theorem go_ref15_Sorted : isGo P 10 = true := by kernel_rfl
abbrev n_ref15_Pack : Nat := 11
theorem fn_ref15_Pack : P.funcs[11]? = some Tryd.f11 := Tryd.func11
theorem nt_ref15_Pack : Tryd.f11.ntmps = 76 := Tryd.ntmps11
theorem go_ref15_Pack : isGo P 11 = true := by kernel_rfl
abbrev n_ref01_Four : Nat := 12
theorem fn_ref01_Four : P.funcs[12]? = some Tryd.f12 := Tryd.func12
theorem nt_ref01_Four : Tryd.f12.ntmps = 15 := Tryd.ntmps12
theorem go_ref01_Four : isGo P 12 = true := by kernel_rfl
abbrev n_ref01_Sum : Nat := 13
theorem fn_ref01_Sum : P.funcs[13]? = some Tryd.f13 := Tryd.func13
theorem nt_ref01_Sum : Tryd.f13.ntmps = 34 := Tryd.ntmps13
theorem go_ref01_Sum : isGo P 13 = true := by kernel_rfl
abbrev n_ref01_Num : Nat := 14
theorem fn_ref01_Num : P.funcs[14]? = some Tryd.f14 := Tryd.func14
theorem nt_ref01_Num : Tryd.f14.ntmps = 20 := Tryd.ntmps14
theorem go_ref01_Num : isGo P 14 = true := by kernel_rfl
abbrev n_pack_sorted : Nat := 15
theorem fn_pack_sorted : P.funcs[15]? = some Tryd.f15 := Tryd.func15
theorem nt_pack_sorted : Tryd.f15.ntmps = 24 := Tryd.ntmps15
theorem go_pack_sorted : isGo P 15 = true := by kernel_rfl
abbrev n_digit_Pen_Raw : Nat := 16
theorem fn_digit_Pen_Raw : P.funcs[16]? = some Tryd.f16 := Tryd.func16
theorem nt_digit_Pen_Raw : Tryd.f16.ntmps = 15 := Tryd.ntmps16
theorem go_digit_Pen_Raw : isGo P 16 = true := by kernel_rfl
abbrev n_digit_Pen_Num : Nat := 17
theorem fn_digit_Pen_Num : P.funcs[17]? = some Tryd.f17 := Tryd.func17
theorem nt_digit_Pen_Num : Tryd.f17.ntmps = 37 := Tryd.ntmps17
theorem go_digit_Pen_Num : isGo P 17 = true := by kernel_rfl
abbrev n_delta_Make : Nat := 18
theorem fn_delta_Make : P.funcs[18]? = some Tryd.f18 := Tryd.func18
theorem nt_delta_Make : Tryd.f18.ntmps = 56 := Tryd.ntmps18
theorem go_delta_Make : isGo P 18 = true := by kernel_rfl
abbrev n_check_Four : Nat := 19
theorem fn_check_Four : P.funcs[19]? = some Tryd.f19 := Tryd.func19
theorem nt_check_Four : Tryd.f19.ntmps = 15 := Tryd.ntmps19
theorem go_check_Four : isGo P 19 = true := by kernel_rfl
abbrev n_check_Of : Nat := 20
theorem fn_check_Of : P.funcs[20]? = some Tryd.f20 := Tryd.func20
theorem nt_check_Of : Tryd.f20.ntmps = 36 := Tryd.ntmps20
theorem go_check_Of : isGo P 20 = true := by kernel_rfl
abbrev n_digit_NewEye : Nat := 21
theorem fn_digit_NewEye : P.funcs[21]? = some Tryd.f21 := Tryd.func21
theorem nt_digit_NewEye : Tryd.f21.ntmps = 7 := Tryd.ntmps21
theorem go_digit_NewEye : isGo P 21 = true := by kernel_rfl
abbrev n_digit_Eye_Raw : Nat := 22
theorem fn_digit_Eye_Raw : P.funcs[22]? = some Tryd.f22 := Tryd.func22
theorem nt_digit_Eye_Raw : Tryd.f22.ntmps = 45 := Tryd.ntmps22
theorem go_digit_Eye_Raw : isGo P 22 = true := by kernel_rfl
abbrev n_pack_read : Nat := 23
theorem fn_pack_read : P.funcs[23]? = some Tryd.f23 := Tryd.func23
theorem nt_pack_read : Tryd.f23.ntmps = 54 := Tryd.ntmps23
theorem go_pack_read : isGo P 23 = true := by kernel_rfl
abbrev n_ref01_Stamp : Nat := 24
theorem fn_ref01_Stamp : P.funcs[24]? = some Tryd.f24 := Tryd.func24
theorem nt_ref01_Stamp : Tryd.f24.ntmps = 284 := Tryd.ntmps24
theorem go_ref01_Stamp : isGo P 24 = true := by kernel_rfl
abbrev n_ref15_Delta : Nat := 25
theorem fn_ref15_Delta : P.funcs[25]? = some Tryd.f25 := Tryd.func25
theorem nt_ref15_Delta : Tryd.f25.ntmps = 67 := Tryd.ntmps25
theorem go_ref15_Delta : isGo P 25 = true := by kernel_rfl
abbrev n_stamp_Of : Nat := 26
theorem fn_stamp_Of : P.funcs[26]? = some Tryd.f26 := Tryd.func26
theorem nt_stamp_Of : Tryd.f26.ntmps = 81 := Tryd.ntmps26
theorem go_stamp_Of : isGo P 26 = true := by kernel_rfl
abbrev n_slices_SortStableFunc_pack_item_pack_item : Nat := 27
theorem fn_slices_SortStableFunc_pack_item_pack_item : P.funcs[27]? = some Tryd.f27 := Tryd.func27
theorem nt_slices_SortStableFunc_pack_item_pack_item : Tryd.f27.ntmps = 9 := Tryd.ntmps27
theorem go_slices_SortStableFunc_pack_item_pack_item : isGo P 27 = true := by kernel_rfl
abbrev n_pack_sorted_1 : Nat := 28
theorem fn_pack_sorted_1 : P.funcs[28]? = some Tryd.f28 := Tryd.func28
theorem nt_pack_sorted_1 : Tryd.f28.ntmps = 10 := Tryd.ntmps28
theorem go_pack_sorted_1 : isGo P 28 = true := by kernel_rfl
abbrev n_slices_Compare_byte_byte : Nat := 29
theorem fn_slices_Compare_byte_byte : P.funcs[29]? = some Tryd.f29 := Tryd.func29
theorem nt_slices_Compare_byte_byte : Tryd.f29.ntmps = 36 := Tryd.ntmps29
theorem go_slices_Compare_byte_byte : isGo P 29 = true := by kernel_rfl
abbrev n_slices_CompactFunc_pack_item_pack_item : Nat := 30
theorem fn_slices_CompactFunc_pack_item_pack_item : P.funcs[30]? = some Tryd.f30 := Tryd.func30
theorem nt_slices_CompactFunc_pack_item_pack_item : Tryd.f30.ntmps = 66 := Tryd.ntmps30
theorem go_slices_CompactFunc_pack_item_pack_item : isGo P 30 = true := by kernel_rfl
abbrev n_pack_sorted_2 : Nat := 31
theorem fn_pack_sorted_2 : P.funcs[31]? = some Tryd.f31 := Tryd.func31
theorem nt_pack_sorted_2 : Tryd.f31.ntmps = 10 := Tryd.ntmps31
theorem go_pack_sorted_2 : isGo P 31 = true := by kernel_rfl
abbrev n_delta_longest : Nat := 32
theorem fn_delta_longest : P.funcs[32]? = some Tryd.f32 := Tryd.func32
theorem nt_delta_longest : Tryd.f32.ntmps = 50 := Tryd.ntmps32
theorem go_delta_longest : isGo P 32 = true := by kernel_rfl
abbrev n_delta_maker_tell : Nat := 33
theorem fn_delta_maker_tell : P.funcs[33]? = some Tryd.f33 := Tryd.func33
theorem nt_delta_maker_tell : Tryd.f33.ntmps = 26 := Tryd.ntmps33
theorem go_delta_maker_tell : isGo P 33 = true := by kernel_rfl
abbrev n_digit_Eye_fail : Nat := 34
theorem fn_digit_Eye_fail : P.funcs[34]? = some Tryd.f34 := Tryd.func34
theorem nt_digit_Eye_fail : Tryd.f34.ntmps = 16 := Tryd.ntmps34
theorem go_digit_Eye_fail : isGo P 34 = true := by kernel_rfl
abbrev n_digit_Eye_Num : Nat := 35
theorem fn_digit_Eye_Num : P.funcs[35]? = some Tryd.f35 := Tryd.func35
theorem nt_digit_Eye_Num : Tryd.f35.ntmps = 71 := Tryd.ntmps35
theorem go_digit_Eye_Num : isGo P 35 = true := by kernel_rfl
abbrev n_delta_Apply : Nat := 36
theorem fn_delta_Apply : P.funcs[36]? = some Tryd.f36 := Tryd.func36
theorem nt_delta_Apply : Tryd.f36.ntmps = 73 := Tryd.ntmps36
theorem go_delta_Apply : isGo P 36 = true := by kernel_rfl
abbrev n_digit_Eye_Fault : Nat := 37
theorem fn_digit_Eye_Fault : P.funcs[37]? = some Tryd.f37 := Tryd.func37
theorem nt_digit_Eye_Fault : Tryd.f37.ntmps = 9 := Tryd.ntmps37
theorem go_digit_Eye_Fault : isGo P 37 = true := by kernel_rfl
abbrev n_digit_Eye_End : Nat := 38
theorem fn_digit_Eye_End : P.funcs[38]? = some Tryd.f38 := Tryd.func38
theorem nt_digit_Eye_End : Tryd.f38.ntmps = 13 := Tryd.ntmps38
theorem go_digit_Eye_End : isGo P 38 = true := by kernel_rfl
abbrev n_ref01_turn : Nat := 39
theorem fn_ref01_turn : P.funcs[39]? = some Tryd.f39 := Tryd.func39
theorem nt_ref01_turn : Tryd.f39.ntmps = 13 := Tryd.ntmps39
theorem go_ref01_turn : isGo P 39 = true := by kernel_rfl
abbrev n_ref15_piece : Nat := 40
theorem fn_ref15_piece : P.funcs[40]? = some Tryd.f40 := Tryd.func40
theorem nt_ref15_piece : Tryd.f40.ntmps = 36 := Tryd.ntmps40
theorem go_ref15_piece : isGo P 40 = true := by kernel_rfl
abbrev n_stamp_block : Nat := 41
theorem fn_stamp_block : P.funcs[41]? = some Tryd.f41 := Tryd.func41
theorem nt_stamp_block : Tryd.f41.ntmps = 199 := Tryd.ntmps41
theorem go_stamp_block : isGo P 41 = true := by kernel_rfl
abbrev n_slices_stableCmpFunc_pack_item : Nat := 42
theorem fn_slices_stableCmpFunc_pack_item : P.funcs[42]? = some Tryd.f42 := Tryd.func42
theorem nt_slices_stableCmpFunc_pack_item : Tryd.f42.ntmps = 63 := Tryd.ntmps42
theorem go_slices_stableCmpFunc_pack_item : isGo P 42 = true := by kernel_rfl
abbrev n_cmp_Compare_byte : Nat := 43
theorem fn_cmp_Compare_byte : P.funcs[43]? = some Tryd.f43 := Tryd.func43
theorem nt_cmp_Compare_byte : Tryd.f43.ntmps = 20 := Tryd.ntmps43
theorem go_cmp_Compare_byte : isGo P 43 = true := by kernel_rfl
abbrev n_digit_Eye_Left : Nat := 44
theorem fn_digit_Eye_Left : P.funcs[44]? = some Tryd.f44 := Tryd.func44
theorem nt_digit_Eye_Left : Tryd.f44.ntmps = 10 := Tryd.ntmps44
theorem go_digit_Eye_Left : isGo P 44 = true := by kernel_rfl
abbrev n_bytes_Equal : Nat := 45
theorem fn_bytes_Equal : P.funcs[45]? = some Tryd.f45 := Tryd.func45
theorem nt_bytes_Equal : Tryd.f45.ntmps = 10 := Tryd.ntmps45
theorem go_bytes_Equal : isGo P 45 = true := by kernel_rfl
abbrev n_math_bits_RotateLeft32 : Nat := 46
theorem fn_math_bits_RotateLeft32 : P.funcs[46]? = some Tryd.f46 := Tryd.func46
theorem nt_math_bits_RotateLeft32 : Tryd.f46.ntmps = 17 := Tryd.ntmps46
theorem go_math_bits_RotateLeft32 : isGo P 46 = true := by kernel_rfl
abbrev n_slices_insertionSortCmpFunc_pack_item : Nat := 47
theorem fn_slices_insertionSortCmpFunc_pack_item : P.funcs[47]? = some Tryd.f47 := Tryd.func47
theorem nt_slices_insertionSortCmpFunc_pack_item : Tryd.f47.ntmps = 53 := Tryd.ntmps47
theorem go_slices_insertionSortCmpFunc_pack_item : isGo P 47 = true := by kernel_rfl
abbrev n_slices_symMergeCmpFunc_pack_item : Nat := 48
theorem fn_slices_symMergeCmpFunc_pack_item : P.funcs[48]? = some Tryd.f48 := Tryd.func48
theorem nt_slices_symMergeCmpFunc_pack_item : Tryd.f48.ntmps = 220 := Tryd.ntmps48
theorem go_slices_symMergeCmpFunc_pack_item : isGo P 48 = true := by kernel_rfl
abbrev n_cmp_isNaN_byte : Nat := 49
theorem fn_cmp_isNaN_byte : P.funcs[49]? = some Tryd.f49 := Tryd.func49
theorem nt_cmp_isNaN_byte : Tryd.f49.ntmps = 6 := Tryd.ntmps49
theorem go_cmp_isNaN_byte : isGo P 49 = true := by kernel_rfl
abbrev n_slices_rotateCmpFunc_pack_item : Nat := 50
theorem fn_slices_rotateCmpFunc_pack_item : P.funcs[50]? = some Tryd.f50 := Tryd.func50
theorem nt_slices_rotateCmpFunc_pack_item : Tryd.f50.ntmps = 58 := Tryd.ntmps50
theorem go_slices_rotateCmpFunc_pack_item : isGo P 50 = true := by kernel_rfl
abbrev n_slices_swapRangeCmpFunc_pack_item : Nat := 51
theorem fn_slices_swapRangeCmpFunc_pack_item : P.funcs[51]? = some Tryd.f51 := Tryd.func51
theorem nt_slices_swapRangeCmpFunc_pack_item : Tryd.f51.ntmps = 38 := Tryd.ntmps51
theorem go_slices_swapRangeCmpFunc_pack_item : isGo P 51 = true := by kernel_rfl
abbrev g_check_lines : Nat := 0
abbrev g_stamp_first : Nat := 1
abbrev g_stamp_parts : Nat := 2
def u_int64 := Tryd.underlying2
abbrev t_int64 : Nat := 2
theorem sz_int64 : tsz P 2 = some (1, 8) := by kernel_rfl
theorem z_int64 : tzero P 2 = some (.int .i64 0) := by kernel_rfl
def u_int := Tryd.underlying3
abbrev t_int : Nat := 3
theorem sz_int : tsz P 3 = some (1, 8) := by kernel_rfl
theorem z_int : tzero P 3 = some (.int .i64 0) := by kernel_rfl
def u_bool := Tryd.underlying4
abbrev t_bool : Nat := 4
theorem sz_bool : tsz P 4 = some (1, 1) := by kernel_rfl
theorem z_bool : tzero P 4 = some (.bool false) := by kernel_rfl
def u_uint8 := Tryd.underlying5
abbrev t_uint8 : Nat := 5
theorem sz_uint8 : tsz P 5 = some (1, 1) := by kernel_rfl
theorem z_uint8 : tzero P 5 = some (.int .u8 0) := by kernel_rfl
def u_string := Tryd.underlying9
abbrev t_string : Nat := 9
theorem sz_string : tsz P 9 = some (1, 16) := by kernel_rfl
theorem z_string : tzero P 9 = some (.string ⟨#[]⟩) := by kernel_rfl
def u_uintptr := Tryd.underlying12
abbrev t_uintptr : Nat := 12
theorem sz_uintptr : tsz P 12 = some (1, 8) := by kernel_rfl
theorem z_uintptr : tzero P 12 = some (.int .u64 0) := by kernel_rfl
def u_st13 := Tryd.underlying13
abbrev t_st13 : Nat := 13
theorem sz_st13 : tsz P 13 = some (2, 24) := by kernel_rfl
theorem z_st13 : tzero P 13 = some (.agg #[.string ⟨#[]⟩, .int .u64 0]) := by kernel_rfl
def u_interface := Tryd.underlying20
abbrev t_interface : Nat := 20
theorem sz_interface : tsz P 20 = some (1, 16) := by kernel_rfl
theorem z_interface : tzero P 20 = some (.nilIface) := by kernel_rfl
def u_int32 := Tryd.underlying21
abbrev t_int32 : Nat := 21
theorem sz_int32 : tsz P 21 = some (1, 4) := by kernel_rfl
theorem z_int32 : tzero P 21 = some (.int .i32 0) := by kernel_rfl
def u_S_S_uint8 := Tryd.underlying22
abbrev t_S_S_uint8 : Nat := 22
theorem sz_S_S_uint8 : tsz P 22 = some (1, 24) := by kernel_rfl
theorem z_S_S_uint8 : tzero P 22 = some (.slice none 0 0) := by kernel_rfl
def u_S_uint8 := Tryd.underlying24
abbrev t_S_uint8 : Nat := 24
theorem sz_S_uint8 : tsz P 24 = some (1, 24) := by kernel_rfl
theorem z_S_uint8 : tzero P 24 = some (.slice none 0 0) := by kernel_rfl
def u_api_Errno := Tryd.underlying25
abbrev t_api_Errno : Nat := 25
theorem sz_api_Errno : tsz P 25 = some (1, 8) := by kernel_rfl
theorem z_api_Errno : tzero P 25 = some (.int .i64 0) := by kernel_rfl
def u_uint16 := Tryd.underlying33
abbrev t_uint16 : Nat := 33
theorem sz_uint16 : tsz P 33 = some (1, 2) := by kernel_rfl
theorem z_uint16 : tzero P 33 = some (.int .u16 0) := by kernel_rfl
def u_uint32 := Tryd.underlying35
abbrev t_uint32 : Nat := 35
theorem sz_uint32 : tsz P 35 = some (1, 4) := by kernel_rfl
theorem z_uint32 : tzero P 35 = some (.int .u32 0) := by kernel_rfl
def u_S_pack_item := Tryd.underlying41
abbrev t_S_pack_item : Nat := 41
theorem sz_S_pack_item : tsz P 41 = some (1, 24) := by kernel_rfl
theorem z_S_pack_item : tzero P 41 = some (.slice none 0 0) := by kernel_rfl
def u_p_digit_Pen := Tryd.underlying43
abbrev t_p_digit_Pen : Nat := 43
theorem sz_p_digit_Pen : tsz P 43 = some (1, 8) := by kernel_rfl
theorem z_p_digit_Pen : tzero P 43 = some (.pointer none) := by kernel_rfl
def u_st44 := Tryd.underlying44
abbrev t_st44 : Nat := 44
theorem sz_st44 : tsz P 44 = some (1, 24) := by kernel_rfl
theorem z_st44 : tzero P 44 = some (.agg #[.slice none 0 0]) := by kernel_rfl
def u_digit_Pen := Tryd.underlying45
abbrev t_digit_Pen : Nat := 45
theorem sz_digit_Pen : tsz P 45 = some (1, 24) := by kernel_rfl
theorem pl_digit_Pen : fplaces P 45 = some [(0, 1)] := by kernel_rfl
theorem z_digit_Pen : tzero P 45 = some (.agg #[.slice none 0 0]) := by kernel_rfl
def u_A32_uint8 := Tryd.underlying48
abbrev t_A32_uint8 : Nat := 48
theorem sz_A32_uint8 : tsz P 48 = some (32, 32) := by kernel_rfl
theorem z_A32_uint8 : tzero P 48 = some (.agg (Array.replicate 32 (.int .u8 0))) := by kernel_rfl
def u_api_Key := Tryd.underlying49
abbrev t_api_Key : Nat := 49
theorem sz_api_Key : tsz P 49 = some (32, 32) := by kernel_rfl
theorem z_api_Key : tzero P 49 = some (.agg (Array.replicate 32 (.int .u8 0))) := by kernel_rfl
def u_st50 := Tryd.underlying50
abbrev t_st50 : Nat := 50
theorem sz_st50 : tsz P 50 = some (33, 56) := by kernel_rfl
theorem z_st50 : tzero P 50 = some (.agg #[.int .u8 0, .int .u8 0, .int .u8 0, .int .u8 0, .int .u8 0, .int .u8 0, .int .u8 0, .int .u8 0, .int .u8 0, .int .u8 0, .int .u8 0, .int .u8 0, .int .u8 0, .int .u8 0, .int .u8 0, .int .u8 0, .int .u8 0, .int .u8 0, .int .u8 0, .int .u8 0, .int .u8 0, .int .u8 0, .int .u8 0, .int .u8 0, .int .u8 0, .int .u8 0, .int .u8 0, .int .u8 0, .int .u8 0, .int .u8 0, .int .u8 0, .int .u8 0, .slice none 0 0]) := by kernel_rfl
def u_pack_item := Tryd.underlying51
abbrev t_pack_item : Nat := 51
theorem sz_pack_item : tsz P 51 = some (33, 56) := by kernel_rfl
theorem pl_pack_item : fplaces P 51 = some [(0, 32), (32, 1)] := by kernel_rfl
theorem z_pack_item : tzero P 51 = some (.agg #[.int .u8 0, .int .u8 0, .int .u8 0, .int .u8 0, .int .u8 0, .int .u8 0, .int .u8 0, .int .u8 0, .int .u8 0, .int .u8 0, .int .u8 0, .int .u8 0, .int .u8 0, .int .u8 0, .int .u8 0, .int .u8 0, .int .u8 0, .int .u8 0, .int .u8 0, .int .u8 0, .int .u8 0, .int .u8 0, .int .u8 0, .int .u8 0, .int .u8 0, .int .u8 0, .int .u8 0, .int .u8 0, .int .u8 0, .int .u8 0, .int .u8 0, .int .u8 0, .slice none 0 0]) := by kernel_rfl
def u_p_digit_Eye := Tryd.underlying53
abbrev t_p_digit_Eye : Nat := 53
theorem sz_p_digit_Eye : tsz P 53 = some (1, 8) := by kernel_rfl
theorem z_p_digit_Eye : tzero P 53 = some (.pointer none) := by kernel_rfl
def u_uint64 := Tryd.underlying63
abbrev t_uint64 : Nat := 63
theorem sz_uint64 : tsz P 63 = some (1, 8) := by kernel_rfl
theorem z_uint64 : tzero P 63 = some (.int .u64 0) := by kernel_rfl
def u_uint := Tryd.underlying64
abbrev t_uint : Nat := 64
theorem sz_uint : tsz P 64 = some (1, 8) := by kernel_rfl
theorem z_uint : tzero P 64 = some (.int .u64 0) := by kernel_rfl
def u_p_delta_maker := Tryd.underlying65
abbrev t_p_delta_maker : Nat := 65
theorem sz_p_delta_maker : tsz P 65 = some (1, 8) := by kernel_rfl
theorem z_p_delta_maker : tzero P 65 = some (.pointer none) := by kernel_rfl
def u_st66 := Tryd.underlying66
abbrev t_st66 : Nat := 66
theorem sz_st66 : tsz P 66 = some (2, 48) := by kernel_rfl
theorem z_st66 : tzero P 66 = some (.agg #[.slice none 0 0, .slice none 0 0]) := by kernel_rfl
def u_delta_maker := Tryd.underlying67
abbrev t_delta_maker : Nat := 67
theorem sz_delta_maker : tsz P 67 = some (2, 48) := by kernel_rfl
theorem pl_delta_maker : fplaces P 67 = some [(0, 1), (1, 1)] := by kernel_rfl
theorem z_delta_maker : tzero P 67 = some (.agg #[.slice none 0 0, .slice none 0 0]) := by kernel_rfl
def u_A16_uint32 := Tryd.underlying70
abbrev t_A16_uint32 : Nat := 70
theorem sz_A16_uint32 : tsz P 70 = some (16, 64) := by kernel_rfl
theorem z_A16_uint32 : tzero P 70 = some (.agg (Array.replicate 16 (.int .u32 0))) := by kernel_rfl
def u_st71 := Tryd.underlying71
abbrev t_st71 : Nat := 71
theorem sz_st71 : tsz P 71 = some (2, 32) := by kernel_rfl
theorem z_st71 : tzero P 71 = some (.agg #[.slice none 0 0, .int .i64 0]) := by kernel_rfl
def u_digit_Eye := Tryd.underlying72
abbrev t_digit_Eye : Nat := 72
theorem sz_digit_Eye : tsz P 72 = some (2, 32) := by kernel_rfl
theorem pl_digit_Eye : fplaces P 72 = some [(0, 1), (1, 1)] := by kernel_rfl
theorem z_digit_Eye : tzero P 72 = some (.agg #[.slice none 0 0, .int .i64 0]) := by kernel_rfl
def u_S_uint32 := Tryd.underlying77
abbrev t_S_uint32 : Nat := 77
theorem sz_S_uint32 : tsz P 77 = some (1, 24) := by kernel_rfl
theorem z_S_uint32 : tzero P 77 = some (.slice none 0 0) := by kernel_rfl
def u_A8_uint32 := Tryd.underlying79
abbrev t_A8_uint32 : Nat := 79
theorem sz_A8_uint32 : tsz P 79 = some (8, 32) := by kernel_rfl
theorem z_A8_uint32 : tzero P 79 = some (.agg (Array.replicate 8 (.int .u32 0))) := by kernel_rfl
def u_A64_uint32 := Tryd.underlying85
abbrev t_A64_uint32 : Nat := 85
theorem sz_A64_uint32 : tsz P 85 = some (64, 256) := by kernel_rfl
theorem z_A64_uint32 : tzero P 85 = some (.agg (Array.replicate 64 (.int .u32 0))) := by kernel_rfl
def u_p_uint8 := Tryd.underlying98
abbrev t_p_uint8 : Nat := 98
theorem sz_p_uint8 : tsz P 98 = some (1, 8) := by kernel_rfl
theorem z_p_uint8 : tzero P 98 = some (.pointer none) := by kernel_rfl
end Go.Proofs.K

/- Numbers as digits of base 128, and back: plain lists of bytes. -/
namespace Go.Sl

/-- the digits of a number, the lowest first, the last one marked -/
def numN (n : Nat) : List UInt8 := if h : n < 128 then [UInt8.ofNat (n + 128)] else UInt8.ofNat (n % 128) :: numN (n / 128)
termination_by n
decreasing_by omega

theorem numN_len_pos (n : Nat) : 0 < (numN n).length := by unfold numN; split <;> simp
theorem numN_len : ∀ (k n : Nat), n < 128 ^ k → (numN n).length ≤ max k 1
  | 0, n, h => by simp at h; subst h; unfold numN; simp
  | k + 1, n, h => by
    unfold numN
    split
    · simp
    · have h2 : n / 128 < 128 ^ k := by rw [Nat.div_lt_iff_lt_mul (by omega)]; rw [Nat.pow_succ] at h; exact h
      have := numN_len k (n / 128) h2
      have hk : k ≠ 0 := by intro e; subst e; simp at h2; omega
      simp only [List.length_cons]; omega
theorem numN_len9 (n : Nat) (h : n < 9223372036854775808) : (numN n).length ≤ 9 := by
  have := numN_len 9 n (by simpa using h); omega
theorem numN_len10 (n : Nat) (h : n < 18446744073709551616) : (numN n).length ≤ 10 := by
  have := numN_len 10 n (Nat.lt_of_lt_of_le h (by decide)); omega

/-- a number ahead, as an eye takes it: what it comes to, the fault, what is left -/
def getN : List UInt8 → Nat → Nat → Int → Int × (Int × List UInt8)
  | [], _, _, _ => (0, (6, []))
  | b :: r, i, u, most =>
    if i = 9 ∨ (b = 128 ∧ 0 < i) then (0, (7, [])) else
    if b < 128 then getN r (i + 1) (u + b.toNat % 128 * 128 ^ i) most
    else if max most 0 < ((u + b.toNat % 128 * 128 ^ i : Nat) : Int) then (0, (5, [])) else (((u + b.toNat % 128 * 128 ^ i : Nat) : Int), (0, r))

def eyeNum (st : Int × List UInt8) (most : Int) : Int × (Int × List UInt8) := if st.1 = 0 then getN st.2 0 0 most else (0, st)
def eyeRaw (st : Int × List UInt8) (n : Int) : List UInt8 × (Int × List UInt8) :=
  if st.1 ≠ 0 ∨ n ≤ 0 then ([], st) else if (st.2.length : Int) < n then ([], (6, [])) else (st.2.take n.toNat, (0, st.2.drop n.toNat))
def eyeText (st : Int × List UInt8) (most : Int) : List UInt8 × (Int × List UInt8) := eyeRaw (eyeNum st most).2 (eyeNum st most).1
def eyeFail (st : Int × List UInt8) (k : Int) : Int × List UInt8 := if st.1 = 0 then (k, []) else st
def eyeEnd (st : Int × List UInt8) : Int := if st.1 = 0 ∧ 0 < st.2.length then 7 else st.1

theorem or_add (u x i : Nat) (hu : u < 128 ^ i) : u ||| x * 2 ^ (7 * i) = u + x * 128 ^ i := by
  have e : (128 : Nat) ^ i = 2 ^ (7 * i) := by rw [Nat.pow_mul]
  rw [e] at hu ⊢
  rw [Nat.or_comm, Nat.mul_comm, ← Nat.two_pow_add_eq_or_of_lt hu, Nat.add_comm]

theorem digit_lt (u b i : Nat) (hu : u < 128 ^ i) : u + b % 128 * 128 ^ i < 128 ^ (i + 1) := by
  have : b % 128 ≤ 127 := by omega
  have h2 : b % 128 * 128 ^ i ≤ 127 * 128 ^ i := Nat.mul_le_mul_right _ this
  rw [Nat.pow_succ]; omega

theorem dig_low (u : UInt64) : (u &&& 127).toUInt8 = UInt8.ofNat (u.toNat % 128) := by
  apply UInt8.toNat_inj.1
  have : u.toNat &&& 127 = u.toNat % 128 := Nat.and_two_pow_sub_one_eq_mod u.toNat 7
  rw [UInt64.toNat_toUInt8, UInt64.toNat_and, UInt8.toNat_ofNat']
  show (u.toNat &&& 127) % 256 = _
  rw [this]
theorem dig_last (u : UInt64) (h : u.toNat < 128) : (u.toUInt8 ||| 128) = UInt8.ofNat (u.toNat + 128) := by
  apply UInt8.toNat_inj.1
  have h1 : 128 ||| u.toNat = 128 + u.toNat := (Nat.two_pow_add_eq_or_of_lt (i := 7) (b := u.toNat) (by omega) 1).symm
  rw [UInt8.toNat_or, UInt64.toNat_toUInt8, UInt8.toNat_ofNat', Nat.mod_eq_of_lt (by omega)]
  show u.toNat ||| 128 = _
  rw [Nat.or_comm, h1]
  omega
theorem dig_next (u : UInt64) : (UInt64.ofNat (u.toNat / 2 ^ (7 : Int).toNat)).toNat = u.toNat / 128 := by
  have hu := u.toNat_lt
  show (UInt64.ofNat (u.toNat / 128)).toNat = _
  rw [UInt64.toNat_ofNat']; omega
theorem ofInt_nat (m : Nat) (h : m < 18446744073709551616) : (UInt64.ofInt (m : Int)).toNat = m := by
  simp [UInt64.ofInt, UInt64.toNat_ofNat']; omega
end Go.Sl

/- Plain laws of digits: what an eye reads of what a pen has laid, whole or cut. -/
namespace Go.Sl

theorem getN_numN (r : List UInt8) (most : Int) : ∀ (k m i u : Nat), m < 128 ^ k → i + k ≤ 9 → 0 < k → (i = 0 ∨ m ≠ 0) →
    getN (numN m ++ r) i u most = if max most 0 < ((u + m * 128 ^ i : Nat) : Int) then (0, (5, [])) else (((u + m * 128 ^ i : Nat) : Int), (0, r))
  | 0, m, i, u, _, _, h0, _ => by omega
  | k + 1, m, i, u, hm, hi, _, h0 => by
    unfold numN
    have hi9 : ¬ i = 9 := by omega
    by_cases h : m < 128
    · rw [dif_pos h]
      have e1 : (UInt8.ofNat (m + 128)).toNat = m + 128 := by rw [UInt8.toNat_ofNat']; omega
      have e2 : ¬ (UInt8.ofNat (m + 128)) < 128 := by rw [UInt8.lt_iff_toNat_lt, e1]; show ¬ m + 128 < 128; omega
      have e3 : ¬ (i = 9 ∨ (UInt8.ofNat (m + 128) = 128 ∧ 0 < i)) := by
        rintro (hh | ⟨hh, hh2⟩)
        · exact hi9 hh
        · have := congrArg UInt8.toNat hh; rw [e1] at this
          have : m + 128 = 128 := this
          omega
      simp only [List.cons_append, List.nil_append, getN]
      rw [if_neg e3, if_neg e2, e1, show (m + 128) % 128 = m by omega]
    · rw [dif_neg h]
      have e1 : (UInt8.ofNat (m % 128)).toNat = m % 128 := by rw [UInt8.toNat_ofNat']; omega
      have e2 : (UInt8.ofNat (m % 128)) < 128 := by rw [UInt8.lt_iff_toNat_lt, e1]; show m % 128 < 128; omega
      have e3 : ¬ (i = 9 ∨ (UInt8.ofNat (m % 128) = 128 ∧ 0 < i)) := by
        rintro (hh | ⟨hh, hh2⟩)
        · exact hi9 hh
        · have := congrArg UInt8.toNat hh; rw [e1] at this
          have : m % 128 = 128 := this
          omega
      simp only [List.cons_append, getN]
      have hk : 0 < k := by
        rcases Nat.eq_zero_or_pos k with hk | hk
        · subst hk; simp at hm; omega
        · exact hk
      rw [if_neg e3, if_pos e2, e1, Nat.mod_mod, getN_numN r most k (m / 128) (i + 1) _ (by rw [Nat.div_lt_iff_lt_mul (by omega)]; rw [Nat.pow_succ] at hm; exact hm) (by omega) hk (.inr (by omega))]
      have e4 : u + m % 128 * 128 ^ i + m / 128 * 128 ^ (i + 1) = u + m * 128 ^ i := by
        rw [Nat.pow_succ, Nat.mul_comm (128 ^ i) 128, ← Nat.mul_assoc, Nat.add_assoc, ← Nat.add_mul]
        congr 2; omega
      rw [e4]

theorem eyeNum_numN (m : Nat) (r : List UInt8) (most : Int) (hm : m < 9223372036854775808) :
    eyeNum (0, numN m ++ r) most = if max most 0 < (m : Int) then (0, (5, [])) else ((m : Int), (0, r)) := by
  have := getN_numN r most 9 m 0 0 (by simpa using hm) (by omega) (by omega) (.inl rfl)
  simp only [Nat.zero_add, Nat.pow_zero, Nat.mul_one] at this
  simpa [eyeNum] using this

theorem getN_cut (most : Int) : ∀ (k m i u j : Nat), m < 128 ^ k → i + k ≤ 9 → 0 < k → (i = 0 ∨ m ≠ 0) → j < (numN m).length → getN ((numN m).take j) i u most = (0, (6, []))
  | 0, _, _, _, _, _, _, h, _, _ => by omega
  | k + 1, m, i, u, 0, _, _, _, _, _ => by simp [getN]
  | k + 1, m, i, u, j + 1, hm, hi, _, h0, hj => by
    unfold numN at hj ⊢
    by_cases h : m < 128
    · rw [dif_pos h] at hj; simp at hj
    · rw [dif_neg h] at hj ⊢
      have hi9 : ¬ i = 9 := by omega
      have e1 : (UInt8.ofNat (m % 128)).toNat = m % 128 := by rw [UInt8.toNat_ofNat']; omega
      have e2 : (UInt8.ofNat (m % 128)) < 128 := by rw [UInt8.lt_iff_toNat_lt, e1]; show m % 128 < 128; omega
      have e3 : ¬ (i = 9 ∨ (UInt8.ofNat (m % 128) = 128 ∧ 0 < i)) := by
        rintro (hh | ⟨hh, hh2⟩)
        · exact hi9 hh
        · have := congrArg UInt8.toNat hh; rw [e1] at this
          have : m % 128 = 128 := this
          omega
      have hk : 0 < k := by
        rcases Nat.eq_zero_or_pos k with hk | hk
        · subst hk; simp at hm; omega
        · exact hk
      simp only [List.take_succ_cons, getN]
      rw [if_neg e3, if_pos e2]
      exact getN_cut most k (m / 128) (i + 1) _ j (by rw [Nat.div_lt_iff_lt_mul (by omega)]; rw [Nat.pow_succ] at hm; exact hm) (by omega) hk (.inr (by omega)) (by simpa using hj)

theorem eyeNum_cut (m j : Nat) (most : Int) (hm : m < 9223372036854775808) (hj : j < (numN m).length) : eyeNum (0, (numN m).take j) most = (0, (6, [])) := by
  have := getN_cut most 9 m 0 0 j (by simpa using hm) (by omega) (by omega) (.inl rfl) hj
  simpa [eyeNum] using this

/-- the statements' number from 0 on -/
def hnum (n : Int) : Nat := (UInt64.ofInt n).toNat / 2
theorem hnum_lt (n : Int) : hnum n < 9223372036854775808 := by
  have := (UInt64.ofInt n).toNat_lt
  unfold hnum; omega
def encN (l : List Int) : List UInt8 := l.flatMap fun n => numN (hnum n)
theorem encN_len (l : List Int) : (encN l).length ≤ 9 * l.length := by
  induction l with
  | nil => simp [encN]
  | cons n l ih =>
    have := numN_len9 (hnum n) (hnum_lt n)
    simp only [encN, List.flatMap_cons, List.length_append, List.length_cons] at ih ⊢
    omega
theorem encN_snoc (l : List Int) (n : Int) : encN (l ++ [n]) = encN l ++ numN (hnum n) := by simp [encN]
theorem take_snoc {α : Type} {l : List α} {i : Nat} {x : α} (h : l[i]? = some x) : l.take (i + 1) = l.take i ++ [x] := by
  rw [List.take_add_one, h]; rfl
theorem drop_cons {α : Type} {l : List α} {i : Nat} {x : α} (h : l[i]? = some x) : l.drop i = x :: l.drop (i + 1) := by
  have hlt : i < l.length := (List.getElem?_eq_some_iff.1 h).1
  rw [List.drop_eq_getElem_cons hlt]
  congr 1
  exact (List.getElem?_eq_some_iff.1 h).2

def encT (l : List (List UInt8)) : List UInt8 := l.flatMap fun p => numN p.length ++ p
theorem eyeText_enc (p r : List UInt8) (most : Int) (hp : p.length < 9223372036854775808) (hm : 0 ≤ most) :
    eyeText (0, (numN p.length ++ p) ++ r) most = if most < (p.length : Int) then ([], (5, [])) else (p, (0, r)) := by
  have e : eyeNum (0, numN p.length ++ (p ++ r)) most = if max most 0 < (p.length : Int) then (0, (5, [])) else ((p.length : Int), (0, p ++ r)) := eyeNum_numN _ _ _ hp
  unfold eyeText
  rw [List.append_assoc, e, show max most 0 = most by omega]
  split
  · simp [eyeRaw]
  · by_cases h0 : p.length = 0
    · have : p = [] := List.eq_nil_of_length_eq_zero h0
      subst this; simp [eyeRaw]
    · have : ¬ ((p.length : Int) ≤ 0) := by omega
      have h2 : ¬ (((p ++ r).length : Int) < (p.length : Int)) := by simp; omega
      simp only [eyeRaw]
      rw [if_neg (by rintro (hh | hh); exact hh rfl; exact this hh), if_neg h2]
      simp
end Go.Sl

/- Commits as plain things, and their bytes. -/
namespace Go.Sl

abbrev K32 := BA 32
structure Cm where
  chart : K32
  parents : List K32
  note : List UInt8
  deriving DecidableEq
/-- the cells of a commit: its chart, its parents' slice, its note -/
def cmC (ch : K32) (pv nv : Value) : List Value := bs ch.val ++ [pv, nv]
@[simp] theorem cmC_len (ch : K32) (pv nv : Value) : (cmC ch pv nv).length = 34 := by simp [cmC, bs_length]
theorem cmC_one {ch : K32} {pv nv : Value} (h1 : pv.oneCell' = true) (h2 : nv.oneCell' = true) : ∀ u ∈ cmC ch pv nv, u.oneCell' = true := by
  intro u hu
  simp only [cmC, List.mem_append, List.mem_cons, List.not_mem_nil, or_false] at hu
  rcases hu with hu | rfl | rfl
  · exact bs_one _ u hu
  · exact h1
  · exact h2
instance (ch : K32) (pv nv : Value) : CellAt (cmC ch pv nv) 32 pv := ⟨by rw [cmC, List.getElem?_append_right (by rw [bs_length, ch.len]; exact Nat.le_refl _), bs_length, ch.len]; rfl⟩
instance (ch : K32) (pv nv : Value) : CellAt (cmC ch pv nv) 33 nv := ⟨by rw [cmC, List.getElem?_append_right (by rw [bs_length, ch.len]; omega), bs_length, ch.len]; rfl⟩
instance (ch : K32) (pv nv v : Value) : SetAt (cmC ch pv nv) 32 v (cmC ch v nv) := ⟨by rw [cmC_len]; omega, by rw [cmC, List.set_append_right _ _ (by rw [bs_length, ch.len]; exact Nat.le_refl _), bs_length, ch.len]; rfl⟩
instance (ch : K32) (pv nv v : Value) : SetAt (cmC ch pv nv) 33 v (cmC ch pv v) := ⟨by rw [cmC_len]; omega, by rw [cmC, List.set_append_right _ _ (by rw [bs_length, ch.len]; omega), bs_length, ch.len]; rfl⟩

def rightC (c : Cm) : Bool := decide (c.parents.length ≤ 2) && decide (c.note.length ≤ 30) && (decide (c.parents.length < 2) || decide ((c.parents.getD 0 default).val ≠ (c.parents.getD 1 default).val))
def keys (l : List K32) : List UInt8 := l.flatMap fun k => k.val
theorem keys_len (l : List K32) : (keys l).length = 32 * l.length := by
  induction l with
  | nil => rfl
  | cons k l ih => rw [keys, List.flatMap_cons, List.length_append, k.len, List.length_cons]; rw [keys] at ih; omega
theorem keys_snoc (l : List K32) (k : K32) : keys (l ++ [k]) = keys l ++ k.val := by simp [keys]
theorem keys_take (l : List K32) (i : Nat) (h : i < l.length) : keys (l.take (i + 1)) = keys (l.take i) ++ (l.getD i default).val := by
  rw [List.take_add_one, List.getElem?_eq_getElem h, Option.toList_some, keys_snoc, List.getD_eq_getElem?_getD, List.getElem?_eq_getElem h]; rfl
def encC (c : Cm) : List UInt8 := [75, 49] ++ c.chart.val ++ numN c.parents.length ++ keys c.parents ++ (numN c.note.length ++ c.note)

def near2 (l : List K32) : List K32 := if l.length = 2 ∧ (l.getD 0 default).val = (l.getD 1 default).val then l.take 1 else l
/-- a commit that may be -/
def nearC (c : Cm) : Cm := ⟨c.chart, near2 (c.parents.take 2), c.note.take 30⟩
theorem near2_ok (l : List K32) (h : l.length ≤ 2) : (near2 l).length ≤ 2 ∧ ((near2 l).length < 2 ∨ ((near2 l).getD 0 default).val ≠ ((near2 l).getD 1 default).val) := by
  unfold near2
  by_cases hq : l.length = 2 ∧ (l.getD 0 default).val = (l.getD 1 default).val
  · rw [if_pos hq]
    exact ⟨by simp; omega, .inl (by simp; omega)⟩
  · rw [if_neg hq]
    refine ⟨h, ?_⟩
    by_cases h2 : l.length < 2
    · exact .inl h2
    · exact .inr fun e => hq ⟨by omega, e⟩
theorem near_right (c : Cm) : rightC (nearC c) = true := by
  obtain ⟨h1, h2⟩ := near2_ok (c.parents.take 2) (by simp; omega)
  have h3 : (nearC c).note.length ≤ 30 := by simp [nearC]; omega
  simp only [rightC, Bool.and_eq_true, Bool.or_eq_true, decide_eq_true_eq]
  exact ⟨⟨h1, h3⟩, h2⟩
/-- the next key -/
def keyN (st : Int × List UInt8) : K32 × (Int × List UInt8) := (BA.of 32 (eyeRaw st 32).1, (eyeRaw st 32).2)
def keysN : Nat → (Int × List UInt8) → List K32 × (Int × List UInt8)
  | 0, st => ([], st)
  | n + 1, st => ((keyN st).1 :: (keysN n (keyN st).2).1, (keysN n (keyN st).2).2)
def zeroC : Cm := ⟨BA.zero 32, [], []⟩
/-- what is behind the mark -/
def decB (st : Int × List UInt8) : Cm × (Int × List UInt8) :=
  (⟨(keyN st).1, (keysN (eyeNum (keyN st).2 2).1.toNat (eyeNum (keyN st).2 2).2).1, (eyeText (keysN (eyeNum (keyN st).2 2).1.toNat (eyeNum (keyN st).2 2).2).2 30).1⟩,
    (eyeText (keysN (eyeNum (keyN st).2 2).1.toNat (eyeNum (keyN st).2 2).2).2 30).2)
def okD (p : List UInt8) : Bool := decide ((eyeRaw (0, p) 2).1 = [75, 49]) && (decide (eyeEnd (decB (eyeRaw (0, p) 2).2).2 = 0) && rightC (decB (eyeRaw (0, p) 2).2).1)
def decC (p : List UInt8) : Cm := if okD p = true then (decB (eyeRaw (0, p) 2).2).1 else zeroC
theorem eyeRaw_len (st : Int × List UInt8) (n : Int) : (eyeRaw st n).2.2.length ≤ st.2.length := by
  unfold eyeRaw; split
  · exact Nat.le_refl _
  · split
    · simp
    · simp
theorem getN_rest : ∀ (l : List UInt8) (i u : Nat) (most : Int), (getN l i u most).2.2.length ≤ l.length
  | [], _, _, _ => by simp [getN]
  | b :: r, i, u, most => by
    rw [getN]
    split
    · simp
    · split
      · exact Nat.le_trans (getN_rest r _ _ _) (by simp)
      · split <;> simp
theorem eyeNum_len' (st : Int × List UInt8) (most : Int) : (eyeNum st most).2.2.length ≤ st.2.length := by
  unfold eyeNum; split
  · exact getN_rest _ _ _ _
  · exact Nat.le_refl _
theorem keysN_len : ∀ (n : Nat) (st : Int × List UInt8), (keysN n st).2.2.length ≤ st.2.length ∧ (keysN n st).1.length = n
  | 0, st => ⟨Nat.le_refl _, rfl⟩
  | n + 1, st => by
    have ⟨h1, h2⟩ := keysN_len n (keyN st).2
    exact ⟨Nat.le_trans h1 (eyeRaw_len st 32), by rw [keysN, List.length_cons, h2]⟩
theorem getN_most : ∀ (l : List UInt8) (i u : Nat) (most : Int), 0 ≤ (getN l i u most).1 ∧ (getN l i u most).1 ≤ max most 0
  | [], _, _, _ => by simp [getN]; omega
  | b :: r, i, u, most => by
    rw [getN]
    split
    · simp; omega
    · split
      · exact getN_most r _ _ _
      · split
        · simp; omega
        · simp only; omega
theorem eyeNum_most (st : Int × List UInt8) (most : Int) : 0 ≤ (eyeNum st most).1 ∧ (eyeNum st most).1 ≤ max most 0 := by
  unfold eyeNum; split
  · exact getN_most _ _ _ _
  · simp; omega
theorem fillC (l : List UInt8) (h : l.length = 32) (z : Array Value) (hz : z = ⟨cmC (BA.zero 32) (.slice none 0 0) (sv [])⟩) :
    Instr.fill (fun i => ([(0, 32), (32, 1), (33, 1)] : List (Nat × Nat))[i]?) z [(0, .agg ⟨bs l⟩)] = some ⟨bs l ++ [.slice none 0 0, sv []]⟩ := by
  subst hz
  rw [fill_step (off := 0) (size := 32) (us := bs l) rfl rfl (by rw [bs_length, h]) (by rw [cmC_len]; omega), Instr.fill]
  congr 2
end Go.Sl

/- Stable sorting: plain laws. -/
namespace Go.Sl

abbrev Key := BA 32
theorem bytesLess_irr (l : List UInt8) : Op.bytesLess l l = false := by
  induction l with
  | nil => rfl
  | cons x l ih => simp [Op.bytesLess, ih]
theorem bytesLess_cons' (x y : UInt8) (l m : List UInt8) : Op.bytesLess (x :: l) (y :: m) = if x = y then Op.bytesLess l m else decide (x < y) := by
  by_cases h : x = y
  · subst h; simp [Op.bytesLess]
  · simp [Op.bytesLess, h]
/-- of two that are unlike one is less -/
theorem bytesLess_tri : ∀ (l m : List UInt8), l.length = m.length → Op.bytesLess l m = false → Op.bytesLess m l = false → l = m
  | [], [], _, _, _ => rfl
  | [], _ :: _, h, _, _ => by simp at h
  | _ :: _, [], h, _, _ => by simp at h
  | x :: l, y :: m, h, h1, h2 => by
    rw [bytesLess_cons'] at h1 h2
    by_cases e : x = y
    · subst e
      rw [if_pos rfl] at h1 h2
      rw [bytesLess_tri l m (by simpa using h) h1 h2]
    · rw [if_neg e] at h1
      rw [if_neg (fun q => e q.symm)] at h2
      have h1' := of_decide_eq_false h1
      have h2' := of_decide_eq_false h2
      rw [UInt8.lt_iff_toNat_lt] at h1' h2'
      exact absurd (UInt8.toNat_inj.1 (by omega)) e
theorem bytesLess_tr : ∀ (l m k : List UInt8), l.length = m.length → m.length = k.length → Op.bytesLess l m = true → Op.bytesLess k m = false → Op.bytesLess l k = true
  | [], [], _, _, _, h, _ => by simp [Op.bytesLess] at h
  | [], _ :: _, _, h, _, _, _ => by simp at h
  | _ :: _, [], _, h, _, _, _ => by simp at h
  | _ :: _, _ :: _, [], _, h, _, _ => by simp at h
  | x :: l, y :: m, z :: k, h, h', h1, h2 => by
    rw [bytesLess_cons'] at h1 h2 ⊢
    by_cases e : x = y
    · subst e
      rw [if_pos rfl] at h1
      by_cases e2 : x = z
      · subst e2
        rw [if_pos rfl] at h2 ⊢
        exact bytesLess_tr l m k (by simpa using h) (by simpa using h') h1 h2
      · rw [if_neg (fun q => e2 q.symm)] at h2
        rw [if_neg e2]
        have h2' := of_decide_eq_false h2
        rw [UInt8.lt_iff_toNat_lt] at h2'
        have : x.toNat ≠ z.toNat := fun q => e2 (UInt8.toNat_inj.1 q)
        exact decide_eq_true (UInt8.lt_iff_toNat_lt.2 (by omega))
    · rw [if_neg e] at h1
      have h1' := of_decide_eq_true h1
      rw [UInt8.lt_iff_toNat_lt] at h1'
      have hzy : y.toNat ≤ z.toNat := by
        by_cases e2 : z = y
        · subst e2; exact Nat.le_refl _
        · rw [if_neg e2] at h2
          have h2' := of_decide_eq_false h2
          rw [UInt8.lt_iff_toNat_lt] at h2'; omega
      have hxz : x ≠ z := fun q => by subst q; omega
      rw [if_neg hxz]
      exact decide_eq_true (UInt8.lt_iff_toNat_lt.2 (by omega))
theorem less_asym : ∀ {l m : List UInt8}, Op.bytesLess l m = true → Op.bytesLess m l = true → False
  | [], [], h, _ => by simp [Op.bytesLess] at h
  | [], _ :: _, _, h => by simp [Op.bytesLess] at h
  | _ :: _, [], h, _ => by simp [Op.bytesLess] at h
  | x :: l, y :: m, h1, h2 => by
    rw [bytesLess_cons'] at h1 h2
    by_cases e : x = y
    · subst e
      rw [if_pos rfl] at h1 h2
      exact less_asym h1 h2
    · rw [if_neg e] at h1
      rw [if_neg (fun q => e q.symm)] at h2
      have h1' := of_decide_eq_true h1
      have h2' := of_decide_eq_true h2
      rw [UInt8.lt_iff_toNat_lt] at h1' h2'
      omega
theorem less_tri {a b : Key} (h1 : Op.bytesLess a.val b.val = false) (h2 : Op.bytesLess b.val a.val = false) : a = b := BA.ext' (bytesLess_tri _ _ (by rw [a.len, b.len]) h1 h2)

/-- a slice of bytes, and what it views -/
structure SlV where
  A : Option Addr
  n : Nat
  cap : Nat
  p : List UInt8
@[reducible] def SlV.v (x : SlV) : Value := .slice x.A x.n x.cap
/-- an object and its key -/
structure ItV where
  k : Key
  x : SlV
def lt (a b : ItV) : Bool := Op.bytesLess a.k.val b.k.val
theorem lt_irr (a : ItV) : lt a a = false := bytesLess_irr _
theorem lt_asym {a b : ItV} (h : lt a b = true) : lt b a = false := by
  cases q : lt b a with
  | false => rfl
  | true => exact (less_asym h q).elim
theorem lt_tri {a b : ItV} (h1 : lt a b = false) (h2 : lt b a = false) : a.k = b.k := less_tri h1 h2
/-- a < b ≤ c -/
theorem lt_le {a b c : ItV} (h1 : lt a b = true) (h2 : lt c b = false) : lt a c = true := bytesLess_tr _ _ _ (by rw [a.k.len, b.k.len]) (by rw [b.k.len, c.k.len]) h1 h2
/-- a ≤ b ≤ c -/
theorem le_le {a b c : ItV} (h1 : lt b a = false) (h2 : lt c b = false) : lt c a = false := by
  cases q : lt c a with
  | false => rfl
  | true =>
    have := lt_le q h1
    rw [h2] at this; cases this
/-- a ≤ b < c -/
theorem le_lt {a b c : ItV} (h1 : lt b a = false) (h2 : lt b c = true) : lt a c = true := by
  cases q : lt a c with
  | true => rfl
  | false =>
    have := lt_le h2 q
    rw [h1] at this; cases this
theorem lt_ne {a b : ItV} (h : lt a b = true) : a.k ≠ b.k := fun e => by
  unfold lt at h; rw [e, bytesLess_irr] at h; cases h

def Srt (l : List ItV) : Prop := l.Pairwise fun a b => lt b a = false
def Stb (l m : List ItV) : Prop := ∀ k : Key, l.filter (fun a => decide (a.k = k)) = m.filter (fun a => decide (a.k = k))
theorem Stb.refl (l : List ItV) : Stb l l := fun _ => rfl
theorem Stb.symm {l m : List ItV} (h : Stb l m) : Stb m l := fun k => (h k).symm
theorem Stb.trans {l m n : List ItV} (h : Stb l m) (h2 : Stb m n) : Stb l n := fun k => (h k).trans (h2 k)
theorem Stb.append {l m l' m' : List ItV} (h : Stb l m) (h2 : Stb l' m') : Stb (l ++ l') (m ++ m') := fun k => by rw [List.filter_append, List.filter_append, h k, h2 k]
theorem Stb.mem {l m : List ItV} (h : Stb l m) {a : ItV} (ha : a ∈ l) : a ∈ m := by
  have : a ∈ l.filter (fun b => decide (b.k = a.k)) := List.mem_filter.2 ⟨ha, by simp⟩
  rw [h a.k] at this
  exact (List.mem_filter.1 this).1
theorem Stb.swap {X Y : List ItV} (h : ∀ x ∈ X, ∀ y ∈ Y, x.k ≠ y.k) : Stb (X ++ Y) (Y ++ X) := by
  intro k
  rw [List.filter_append, List.filter_append]
  by_cases hx : X.filter (fun a => decide (a.k = k)) = []
  · rw [hx]; simp
  · have hy : Y.filter (fun a => decide (a.k = k)) = [] := by
      rw [List.filter_eq_nil_iff]
      intro y hy e
      apply hx
      rw [List.filter_eq_nil_iff]
      intro x hx' e2
      exact h x hx' y hy ((of_decide_eq_true e2).trans (of_decide_eq_true e).symm)
    rw [hy]; simp
theorem Stb.cons_inv {a : ItV} {l m : List ItV} (h : Stb (a :: l) (a :: m)) : Stb l m := fun k => by
  have := h k
  rw [List.filter_cons, List.filter_cons] at this
  split at this
  · exact (List.cons.inj this).2
  · exact this
/-- a stable order is one -/
theorem Stb.uniq : ∀ {l m : List ItV}, Srt l → Srt m → Stb l m → l = m
  | [], [], _, _, _ => rfl
  | [], b :: m, _, _, h => absurd (h.symm.mem (a := b) (by simp)) (by simp)
  | a :: l, [], _, _, h => absurd (h.mem (a := a) (by simp)) (by simp)
  | a :: l, b :: m, hl, hm, h => by
    have h1 : lt b a = false := by
      rcases List.mem_cons.1 (h.symm.mem (a := b) (by simp)) with e | e
      · rw [e]; exact lt_irr _
      · exact (List.pairwise_cons.1 hl).1 b e
    have h2 : lt a b = false := by
      rcases List.mem_cons.1 (h.mem (a := a) (by simp)) with e | e
      · rw [e]; exact lt_irr _
      · exact (List.pairwise_cons.1 hm).1 a e
    have hk := lt_tri h2 h1
    have := h a.k
    rw [List.filter_cons_of_pos (by simp), List.filter_cons_of_pos (by simp [hk])] at this
    have e := (List.cons.inj this).1
    subst e
    rw [Stb.uniq (List.pairwise_cons.1 hl).2 (List.pairwise_cons.1 hm).2 h.cons_inv]

/-- the stable order -/
def insB (a : ItV) : List ItV → List ItV
  | [] => [a]
  | b :: l => if lt b a then b :: insB a l else a :: b :: l
def isort : List ItV → List ItV
  | [] => []
  | a :: l => insB a (isort l)
theorem insB_mem (a : ItV) : ∀ (l : List ItV) (x : ItV), x ∈ insB a l ↔ x = a ∨ x ∈ l
  | [], x => by simp [insB]
  | b :: l, x => by
    rw [insB]
    split
    · rw [List.mem_cons, insB_mem a l, List.mem_cons]
      constructor
      · rintro (h | h | h)
        · exact .inr (.inl h)
        · exact .inl h
        · exact .inr (.inr h)
      · rintro (h | h | h)
        · exact .inr (.inl h)
        · exact .inl h
        · exact .inr (.inr h)
    · simp
theorem insB_srt (a : ItV) : ∀ (l : List ItV), Srt l → Srt (insB a l)
  | [], _ => by simp [insB, Srt]
  | b :: l, h => by
    have h' := List.pairwise_cons.1 h
    rw [insB]
    split
    · rename_i hb
      refine List.pairwise_cons.2 ⟨fun x hx => ?_, insB_srt a l h'.2⟩
      rcases (insB_mem a l x).1 hx with rfl | hx
      · exact lt_asym hb
      · exact h'.1 x hx
    · rename_i hb
      have hb' : lt b a = false := by simpa using hb
      refine List.pairwise_cons.2 ⟨fun x hx => ?_, h⟩
      rcases List.mem_cons.1 hx with rfl | hx
      · exact hb'
      · exact le_le hb' (h'.1 x hx)
theorem insB_stb (a : ItV) : ∀ (l : List ItV), Stb (a :: l) (insB a l)
  | [] => .refl _
  | b :: l => by
    rw [insB]
    split
    · rename_i hb
      refine Stb.trans (Stb.append (l := [a, b]) (m := [b, a]) (l' := l) (m' := l) (Stb.swap (X := [a]) (Y := [b]) (fun x hx y hy => ?_)) (.refl _)) (Stb.append (.refl [b]) (insB_stb a l))
      simp at hx hy; subst hx hy; exact (lt_ne hb).symm
    · exact .refl _
theorem insB_len (a : ItV) : ∀ (l : List ItV), (insB a l).length = l.length + 1
  | [] => rfl
  | b :: l => by
    rw [insB]
    split
    · rw [List.length_cons, insB_len a l, List.length_cons]
    · rfl
theorem isort_srt : ∀ l, Srt (isort l)
  | [] => List.Pairwise.nil
  | a :: l => insB_srt a _ (isort_srt l)
theorem isort_stb : ∀ l, Stb l (isort l)
  | [] => .refl _
  | a :: l => Stb.trans (Stb.append (.refl [a]) (isort_stb l)) (insB_stb a _)
theorem isort_len : ∀ l, (isort l).length = l.length
  | [] => rfl
  | a :: l => by rw [isort, insB_len, isort_len l]; rfl
theorem sorted_is {l m : List ItV} (h1 : Srt m) (h2 : Stb l m) : m = isort l := Stb.uniq h1 (isort_srt l) (h2.symm.trans (isort_stb l))

theorem Srt.append {l m : List ItV} (hl : Srt l) (hm : Srt m) (h : ∀ x ∈ l, ∀ y ∈ m, lt y x = false) : Srt (l ++ m) := List.pairwise_append.2 ⟨hl, hm, h⟩
theorem Srt.left {l m : List ItV} (h : Srt (l ++ m)) : Srt l := (List.pairwise_append.1 h).1
theorem Srt.right {l m : List ItV} (h : Srt (l ++ m)) : Srt m := (List.pairwise_append.1 h).2.1
theorem Srt.cross {l m : List ItV} (h : Srt (l ++ m)) : ∀ x ∈ l, ∀ y ∈ m, lt y x = false := (List.pairwise_append.1 h).2.2
theorem Srt.one (a : ItV) : Srt [a] := by simp [Srt]
theorem Srt.nil : Srt [] := List.Pairwise.nil
/-- at a sorted row's end is its greatest -/
theorem Srt.last {l : List ItV} (h : Srt l) {x : ItV} (hx : l[l.length - 1]? = some x) : ∀ y ∈ l, lt x y = false := by
  intro y hy
  obtain ⟨i, hi, rfl⟩ := List.getElem_of_mem hy
  obtain ⟨hl, rfl⟩ := List.getElem?_eq_some_iff.1 hx
  by_cases e : i = l.length - 1
  · subst e; exact lt_irr _
  · exact List.pairwise_iff_getElem.1 h i (l.length - 1) hi hl (by omega)
theorem Srt.first {l : List ItV} (h : Srt l) {x : ItV} (hx : l[0]? = some x) : ∀ y ∈ l, lt y x = false := by
  intro y hy
  obtain ⟨i, hi, rfl⟩ := List.getElem_of_mem hy
  obtain ⟨hl, rfl⟩ := List.getElem?_eq_some_iff.1 hx
  by_cases e : i = 0
  · subst e; exact lt_irr _
  · exact List.pairwise_iff_getElem.1 h 0 i hl hi (by omega)
/-- one is put into a sorted row, behind all that are not greater -/
theorem put_in {S1 S2 : List ItV} {x : ItV} (h : Srt (S1 ++ S2)) (h1 : ∀ y, S1[S1.length - 1]? = some y → lt x y = false) (h2 : ∀ y, S2[0]? = some y → lt x y = true) :
    Srt (S1 ++ x :: S2) ∧ Stb (S1 ++ S2 ++ [x]) (S1 ++ x :: S2) := by
  have hg : ∀ y ∈ S2, lt x y = true := by
    intro y hy
    cases S2 with
    | nil => simp at hy
    | cons z l =>
      have hz := h2 z rfl
      exact lt_le hz (h.right.first (x := z) rfl y hy)
  refine ⟨Srt.append h.left (List.pairwise_cons.2 ⟨fun y hy => lt_asym (hg y hy), h.right⟩) (fun a ha y hy => ?_), ?_⟩
  · rcases List.mem_cons.1 hy with rfl | hy
    · cases hS : S1[S1.length - 1]? with
      | none =>
        have := List.getElem?_eq_none_iff.1 hS
        have : S1 = [] := List.eq_nil_of_length_eq_zero (by omega)
        subst this; simp at ha
      | some z => exact le_le (h.left.last hS a ha) (h1 z hS)
    · exact h.cross a ha y hy
  · rw [List.append_assoc]
    exact Stb.append (.refl S1) (Stb.swap (X := S2) (Y := [x]) (fun a ha b hb => by simp at hb; subst hb; exact (lt_ne (hg a ha)).symm))
/-- one is put into a sorted row, ahead of all that are not less -/
theorem put_in2 {S1 S2 : List ItV} {x : ItV} (h : Srt (S1 ++ S2)) (h1 : ∀ y, S1[S1.length - 1]? = some y → lt y x = true) (h2 : ∀ y, S2[0]? = some y → lt y x = false) :
    Srt (S1 ++ x :: S2) ∧ Stb (x :: (S1 ++ S2)) (S1 ++ x :: S2) := by
  have hg : ∀ y ∈ S1, lt y x = true := by
    intro y hy
    cases hS : S1[S1.length - 1]? with
    | none =>
      have := List.getElem?_eq_none_iff.1 hS
      have : S1 = [] := List.eq_nil_of_length_eq_zero (by omega)
      subst this; simp at hy
    | some z => exact le_lt (h.left.last hS y hy) (h1 z hS)
  have hg2 : ∀ y ∈ S2, lt y x = false := by
    intro y hy
    cases S2 with
    | nil => simp at hy
    | cons z l => exact le_le (h2 z rfl) (h.right.first (x := z) rfl y hy)
  refine ⟨Srt.append h.left (List.pairwise_cons.2 ⟨hg2, h.right⟩) (fun a ha y hy => ?_), ?_⟩
  · rcases List.mem_cons.1 hy with rfl | hy
    · exact lt_asym (hg a ha)
    · exact h.cross a ha y hy
  · have := Stb.append (Stb.swap (X := [x]) (Y := S1) (fun a ha b hb => by simp at ha; subst ha; exact (lt_ne (hg b hb)).symm)) (.refl S2)
    simpa using this
/-- two sorted rows, cut so that the middle changes places -/
theorem merge_cut {A1 U V B2 : List ItV} (hA : Srt (A1 ++ U)) (hB : Srt (V ++ B2)) (h1 : ∀ x y, A1[A1.length - 1]? = some x → B2[0]? = some y → lt y x = false)
    (h2 : ∀ x y, U[0]? = some x → V[V.length - 1]? = some y → lt y x = true) {C1 C2 : List ItV} (s1 : Srt C1) (s2 : Srt C2) (t1 : Stb (A1 ++ V) C1) (t2 : Stb (U ++ B2) C2) :
    Srt (C1 ++ C2) ∧ Stb (A1 ++ U ++ (V ++ B2)) (C1 ++ C2) := by
  have hvu : ∀ u ∈ U, ∀ v ∈ V, lt v u = true := by
    intro u hu v hv
    cases hU : U[0]? with
    | none =>
      have := List.getElem?_eq_none_iff.1 hU
      have : U = [] := List.eq_nil_of_length_eq_zero (by omega)
      subst this; simp at hu
    | some x =>
      cases hV : V[V.length - 1]? with
      | none =>
        have := List.getElem?_eq_none_iff.1 hV
        have : V = [] := List.eq_nil_of_length_eq_zero (by omega)
        subst this; simp at hv
      | some y => exact lt_le (le_lt (hB.left.last hV v hv) (h2 x y hU hV)) (hA.right.first hU u hu)
  refine ⟨Srt.append s1 s2 (fun x hx y hy => ?_), ?_⟩
  · have hx' := t1.symm.mem hx
    have hy' := t2.symm.mem hy
    rcases List.mem_append.1 hx' with hx | hx <;> rcases List.mem_append.1 hy' with hy | hy
    · exact hA.cross x hx y hy
    · cases hA1 : A1[A1.length - 1]? with
      | none =>
        have := List.getElem?_eq_none_iff.1 hA1
        have : A1 = [] := List.eq_nil_of_length_eq_zero (by omega)
        subst this; simp at hx
      | some p =>
        cases hB2 : B2[0]? with
        | none =>
          have := List.getElem?_eq_none_iff.1 hB2
          have : B2 = [] := List.eq_nil_of_length_eq_zero (by omega)
          subst this; simp at hy
        | some q => exact le_le (hA.left.last hA1 x hx) (le_le (h1 p q hA1 hB2) (hB.right.first hB2 y hy))
    · exact lt_asym (hvu y hy x hx)
    · exact hB.cross x hx y hy
  · have e1 : Stb (A1 ++ U ++ (V ++ B2)) (A1 ++ V ++ (U ++ B2)) := by
      have := Stb.append (.refl A1) (Stb.append (Stb.swap (X := U) (Y := V) (fun u hu v hv => (lt_ne (hvu u hu v hv)).symm)) (.refl B2))
      simpa [List.append_assoc] using this
    exact e1.trans (Stb.append t1 t2)

/-! ### rows that are turned -/
def swp (l : List ItV) (i j : Nat) : List ItV := match l[i]?, l[j]? with
  | some a, some b => (l.set i b).set j a
  | _, _ => l
theorem swp_eq {l : List ItV} {i j : Nat} {a b : ItV} (ha : l[i]? = some a) (hb : l[j]? = some b) : swp l i j = (l.set i b).set j a := by rw [swp, ha, hb]
theorem swp_len (l : List ItV) (i j : Nat) : (swp l i j).length = l.length := by
  unfold swp; split <;> simp
/-- one goes back by one place -/
theorem swp_back (P Q : List ItV) (x y : ItV) : swp (P ++ y :: x :: Q) (P.length + 1) P.length = P ++ x :: y :: Q ∧ swp (P ++ y :: x :: Q) P.length (P.length + 1) = P ++ x :: y :: Q := by
  have h1 : (P ++ y :: x :: Q)[P.length + 1]? = some x := by rw [List.getElem?_append_right (by omega)]; simp
  have h2 : (P ++ y :: x :: Q)[P.length]? = some y := by rw [List.getElem?_append_right (by omega)]; simp
  rw [swp_eq h1 h2, swp_eq h2 h1]
  constructor
  · rw [List.set_append_right _ _ (by omega), List.set_append_right _ _ (by omega)]; simp
  · rw [List.set_append_right _ _ (by omega), List.set_append_right _ _ (by omega)]; simp
def swpN (l : List ItV) (a b : Nat) : Nat → List ItV
  | 0 => l
  | n + 1 => swp (swpN l a b n) (a + n) (b + n)
theorem swpN_len (l : List ItV) (a b : Nat) : ∀ n, (swpN l a b n).length = l.length
  | 0 => rfl
  | n + 1 => by rw [swpN, swp_len, swpN_len l a b n]
theorem swpN_part (P X M Y Q : List ItV) : ∀ n, n ≤ X.length → n ≤ Y.length → swpN (P ++ X ++ M ++ Y ++ Q) P.length (P.length + X.length + M.length) n = P ++ (Y.take n ++ X.drop n) ++ M ++ (X.take n ++ Y.drop n) ++ Q
  | 0, _, _ => by simp [swpN]
  | n + 1, hx, hy => by
    rw [swpN, swpN_part P X M Y Q n (by omega) (by omega)]
    obtain ⟨x, hxn⟩ : ∃ x, X[n]? = some x := ⟨_, List.getElem?_eq_getElem (by omega)⟩
    obtain ⟨y, hyn⟩ : ∃ y, Y[n]? = some y := ⟨_, List.getElem?_eq_getElem (by omega)⟩
    have dx : X.drop n = x :: X.drop (n + 1) := by rw [List.drop_eq_getElem_cons (by omega)]; congr 1; exact (List.getElem?_eq_some_iff.1 hxn).2
    have dy : Y.drop n = y :: Y.drop (n + 1) := by rw [List.drop_eq_getElem_cons (by omega)]; congr 1; exact (List.getElem?_eq_some_iff.1 hyn).2
    have tx : X.take (n + 1) = X.take n ++ [x] := by rw [List.take_add_one, hxn]; rfl
    have ty : Y.take (n + 1) = Y.take n ++ [y] := by rw [List.take_add_one, hyn]; rfl
    rw [dx, dy, tx, ty]
    have l1 : (X.take n).length = n := by rw [List.length_take]; omega
    have l2 : (Y.take n).length = n := by rw [List.length_take]; omega
    have l3 : (X.drop (n + 1)).length + n + 1 = X.length := by rw [List.length_drop]; omega
    generalize X.drop (n + 1) = X2 at *
    generalize Y.drop (n + 1) = Y2 at *
    generalize X.take n = X1 at *
    generalize Y.take n = Y1 at *
    have g1 : (P ++ (Y1 ++ x :: X2) ++ M ++ (X1 ++ y :: Y2) ++ Q) = (P ++ Y1) ++ x :: ((X2 ++ M ++ X1) ++ y :: (Y2 ++ Q)) := by simp
    have h1 : (P ++ (Y1 ++ x :: X2) ++ M ++ (X1 ++ y :: Y2) ++ Q)[P.length + n]? = some x := by
      rw [g1, List.getElem?_append_right (by simp; omega)]
      simp [l2]
    have h2 : (P ++ (Y1 ++ x :: X2) ++ M ++ (X1 ++ y :: Y2) ++ Q)[P.length + X.length + M.length + n]? = some y := by
      rw [g1, List.getElem?_append_right (by simp; omega), List.length_append, l2, show P.length + X.length + M.length + n - (P.length + n) = (X2 ++ M ++ X1).length + 1 by simp; omega, List.getElem?_cons_succ, List.getElem?_append_right (by omega)]
      simp
    rw [swp_eq h1 h2, g1, List.set_append_right _ _ (by simp; omega), List.length_append, l2, show P.length + n - (P.length + n) = 0 by omega, List.set_cons_zero, List.set_append_right _ _ (by simp; omega), List.length_append, l2,
      show P.length + X.length + M.length + n - (P.length + n) = (X2 ++ M ++ X1).length + 1 by simp; omega, List.set_cons_succ, List.set_append_right _ _ (by omega), Nat.sub_self, List.set_cons_zero]
    simp
theorem swpN_all (P X M Y Q : List ItV) (h : X.length = Y.length) : swpN (P ++ X ++ M ++ Y ++ Q) P.length (P.length + X.length + M.length) X.length = P ++ Y ++ M ++ X ++ Q := by
  rw [swpN_part P X M Y Q X.length (Nat.le_refl _) (by omega), List.drop_length, List.take_length, h, List.drop_length, List.take_length]
  simp
/-- one that stands in a row, at place q -/
def mvL (P S R : List ItV) (x : ItV) (q : Nat) : List ItV := P ++ (S.take q ++ x :: S.drop q) ++ R
theorem mvL_len (P S R : List ItV) (x : ItV) (q : Nat) : (mvL P S R x q).length = P.length + S.length + 1 + R.length := by
  simp [mvL]; omega
theorem mvL_get (P S R : List ItV) (x : ItV) (q : Nat) (hq : q ≤ S.length) : (mvL P S R x q)[P.length + q]? = some x := by
  have : (P ++ S.take q).length = P.length + q := by simp; omega
  unfold mvL
  rw [show P ++ (S.take q ++ x :: S.drop q) ++ R = (P ++ S.take q) ++ x :: (S.drop q ++ R) by simp, List.getElem?_append_right (by omega), this, Nat.sub_self]; rfl
theorem mvL_step (P S R : List ItV) (x z : ItV) (q : Nat) (hz : S[q]? = some z) : mvL P S R x (q + 1) = (P ++ S.take q) ++ z :: x :: (S.drop (q + 1) ++ R) ∧ mvL P S R x q = (P ++ S.take q) ++ x :: z :: (S.drop (q + 1) ++ R) := by
  obtain ⟨hlt, e⟩ := List.getElem?_eq_some_iff.1 hz
  have d : S.drop q = z :: S.drop (q + 1) := by rw [List.drop_eq_getElem_cons hlt, e]
  have t : S.take (q + 1) = S.take q ++ [z] := by rw [List.take_add_one, hz]; rfl
  constructor
  · rw [mvL, t]; simp
  · rw [mvL, d]; simp
theorem mvL_prev (P S R : List ItV) (x z : ItV) (q : Nat) (hz : S[q]? = some z) : (mvL P S R x (q + 1))[P.length + q]? = some z := by
  obtain ⟨hlt, e⟩ := List.getElem?_eq_some_iff.1 hz
  have : (P ++ S.take q).length = P.length + q := by simp; omega
  rw [(mvL_step P S R x z q hz).1, List.getElem?_append_right (by omega), this, Nat.sub_self]; rfl
theorem mvL_next (P S R : List ItV) (x z : ItV) (q : Nat) (hz : S[q]? = some z) : (mvL P S R x q)[P.length + q + 1]? = some z := by
  obtain ⟨hlt, e⟩ := List.getElem?_eq_some_iff.1 hz
  have : (P ++ S.take q).length = P.length + q := by simp; omega
  rw [(mvL_step P S R x z q hz).2, List.getElem?_append_right (by omega), this, show P.length + q + 1 - (P.length + q) = 1 by omega]; rfl
theorem mvL_back (P S R : List ItV) (x z : ItV) (q : Nat) (hz : S[q]? = some z) : ((mvL P S R x (q + 1)).set (P.length + q + 1) z).set (P.length + q) x = mvL P S R x q := by
  obtain ⟨hlt, e⟩ := List.getElem?_eq_some_iff.1 hz
  have hl : (P ++ S.take q).length = P.length + q := by simp; omega
  show ((mvL P S R x (q + 1)).set (P.length + (q + 1)) z).set (P.length + q) x = _
  rw [← swp_eq (mvL_get P S R x (q + 1) (by omega)) (mvL_prev P S R x z q hz), (mvL_step P S R x z q hz).1, (mvL_step P S R x z q hz).2, show P.length + (q + 1) = (P ++ S.take q).length + 1 by omega, show P.length + q = (P ++ S.take q).length by omega]
  exact (swp_back _ _ x z).1
theorem mvL_forth (P S R : List ItV) (x z : ItV) (q : Nat) (hz : S[q]? = some z) : ((mvL P S R x q).set (P.length + q) z).set (P.length + q + 1) x = mvL P S R x (q + 1) := by
  obtain ⟨hlt, e⟩ := List.getElem?_eq_some_iff.1 hz
  have hl : (P ++ S.take q).length = P.length + q := by simp; omega
  rw [← swp_eq (mvL_get P S R x q (by omega)) (mvL_next P S R x z q hz), (mvL_step P S R x z q hz).1, (mvL_step P S R x z q hz).2, show P.length + q + 1 = (P ++ S.take q).length + 1 by omega, show P.length + q = (P ++ S.take q).length by omega]
  exact (swp_back _ _ z x).2
theorem ins_step {T S : List ItV} {x : ItV} {q : Nat} (hS : S = isort T) (hq : q ≤ S.length) (h1 : ∀ y, 0 < q → S[q - 1]? = some y → lt x y = false) (h2 : ∀ y, S[q]? = some y → lt x y = true) : S.take q ++ x :: S.drop q = isort (T ++ [x]) := by
  have hs : Srt (S.take q ++ S.drop q) := by rw [List.take_append_drop, hS]; exact isort_srt T
  obtain ⟨a, b⟩ := put_in hs (x := x) (fun y hy => by
    rw [List.length_take, Nat.min_eq_left hq] at hy
    by_cases e : q = 0
    · subst e; simp at hy
    · rw [List.getElem?_take_of_lt (by omega)] at hy; exact h1 y (by omega) hy) (fun y hy => by
    rw [List.getElem?_drop] at hy; exact h2 y (by simpa using hy))
  refine sorted_is a (Stb.trans (Stb.append (isort_stb T) (.refl [x])) ?_)
  rw [List.take_append_drop, hS] at b
  rw [hS] at *
  exact b
theorem isort_id {l : List ItV} (h : Srt l) : isort l = l := (sorted_is h (.refl l)).symm
theorem put_last {S : List ItV} {x : ItV} {q : Nat} (hS : Srt S) (hq : q ≤ S.length) (h1 : ∀ y, 0 < q → S[q - 1]? = some y → lt x y = false) (h2 : ∀ y, S[q]? = some y → lt x y = true) : S.take q ++ x :: S.drop q = isort (S ++ [x]) :=
  ins_step (isort_id hS).symm hq h1 h2
theorem put_first {S : List ItV} {x : ItV} {q : Nat} (hS : Srt S) (hq : q ≤ S.length) (h1 : ∀ y, 0 < q → S[q - 1]? = some y → lt y x = true) (h2 : ∀ y, S[q]? = some y → lt y x = false) : S.take q ++ x :: S.drop q = isort ([x] ++ S) := by
  have hs : Srt (S.take q ++ S.drop q) := by rw [List.take_append_drop]; exact hS
  obtain ⟨a, b⟩ := put_in2 hs (x := x) (fun y hy => by
    rw [List.length_take, Nat.min_eq_left hq] at hy
    by_cases e : q = 0
    · subst e; simp at hy
    · rw [List.getElem?_take_of_lt (by omega)] at hy; exact h1 y (by omega) hy) (fun y hy => by
    rw [List.getElem?_drop] at hy; exact h2 y (by simpa using hy))
  rw [List.take_append_drop] at b
  exact sorted_is a b
/-- how two sorted rows are cut -/
theorem sym_plan {P A B Q D : List ItV} (hd : D = P ++ A ++ B ++ Q) {a m b mid n st st0 r0 : Nat} (ha : a = P.length) (hm : m = P.length + A.length) (hb : b = m + B.length) (hmid : mid = (a + b) / 2) (hn : n = mid + m)
    (h0 : (mid < m ∧ st0 = n - b ∧ r0 = mid) ∨ (m ≤ mid ∧ st0 = a ∧ r0 = m)) (h1 : st0 ≤ st) (h2 : st ≤ r0)
    (hL : st = st0 ∨ ∀ x y, D[st - 1]? = some x → D[n - st]? = some y → lt y x = false) (hR : st = r0 ∨ ∀ x y, D[st]? = some x → D[n - 1 - st]? = some y → lt y x = true) (hA : Srt A) (hB : Srt B) :
    ∃ A1 U V B2, A = A1 ++ U ∧ B = V ++ B2 ∧ a + A1.length = st ∧ st + U.length = m ∧ m + V.length = n - st ∧ n - st + B2.length = b ∧ mid = st + V.length ∧ isort (A1 ++ V) ++ isort (U ++ B2) = isort (A ++ B) := by
  have ga : ∀ i, i < A.length → D[a + i]? = A[i]? := fun i hi => by
    rw [hd, ha, List.append_assoc, List.append_assoc, List.getElem?_append_right (by omega), List.getElem?_append_left (by omega)]
    congr 1; omega
  have gb : ∀ i, i < B.length → D[m + i]? = B[i]? := fun i hi => by
    rw [hd, hm, List.append_assoc, List.getElem?_append_right (by rw [List.length_append]; omega), List.length_append, List.getElem?_append_left (by omega)]
    congr 1; omega
  obtain ⟨f1, f2, f3, f4⟩ : a ≤ st ∧ st ≤ m ∧ m ≤ n - st ∧ n - st ≤ b := by omega
  refine ⟨A.take (st - a), A.drop (st - a), B.take (n - st - m), B.drop (n - st - m), (List.take_append_drop _ _).symm, (List.take_append_drop _ _).symm, ?_, ?_, ?_, ?_, ?_, ?_⟩
  · rw [List.length_take]; omega
  · rw [List.length_drop]; omega
  · rw [List.length_take]; omega
  · rw [List.length_drop]; omega
  · rw [List.length_take]; omega
  · have hA' : Srt (A.take (st - a) ++ A.drop (st - a)) := by rw [List.take_append_drop]; exact hA
    have hB' : Srt (B.take (n - st - m) ++ B.drop (n - st - m)) := by rw [List.take_append_drop]; exact hB
    obtain ⟨q1, q2⟩ := merge_cut hA' hB' (fun x y hx hy => by
      rw [List.length_take, Nat.min_eq_left (by omega)] at hx
      rw [List.getElem?_drop] at hy
      have e1 : 0 < st - a := by
        rcases Nat.eq_zero_or_pos (st - a) with e | e
        · rw [e] at hx; simp at hx
        · exact e
      have e2 : n - st - m < B.length := by
        rcases Nat.lt_or_ge (n - st - m) B.length with e | e
        · exact e
        · rw [List.getElem?_eq_none (by omega)] at hy; cases hy
      rw [List.getElem?_take_of_lt (by omega), ← ga _ (by omega), show a + (st - a - 1) = st - 1 by omega] at hx
      rw [Nat.add_zero, ← gb _ (by omega), show m + (n - st - m) = n - st by omega] at hy
      rcases hL with e | hL
      · exfalso; omega
      · exact hL x y hx hy) (fun x y hx hy => by
      rw [List.length_take, Nat.min_eq_left (by omega)] at hy
      rw [List.getElem?_drop] at hx
      have e1 : st - a < A.length := by
        rcases Nat.lt_or_ge (st - a) A.length with e | e
        · exact e
        · rw [List.getElem?_eq_none (by omega)] at hx; cases hx
      have e2 : 0 < n - st - m := by
        rcases Nat.eq_zero_or_pos (n - st - m) with e | e
        · rw [e] at hy; simp at hy
        · exact e
      rw [Nat.add_zero, ← ga _ (by omega), show a + (st - a) = st by omega] at hx
      rw [List.getElem?_take_of_lt (by omega), ← gb _ (by omega), show m + (n - st - m - 1) = n - 1 - st by omega] at hy
      rcases hR with e | hR
      · exfalso; omega
      · exact hR x y hx hy) (isort_srt _) (isort_srt _) (isort_stb _) (isort_stb _)
    rw [List.take_append_drop, List.take_append_drop] at q2
    exact sorted_is q1 q2
theorem mid_u (i j : Nat) (h : i + j < 9223372036854775808) : (UInt64.ofNat ((UInt64.ofInt ((i : Int) + (j : Int))).toNat / 2 ^ (1 : Int).toNat)).toNat = (i + j) / 2 := by
  have e : (UInt64.ofInt ((i : Int) + (j : Int))).toNat = i + j := by
    have := B.wrap_u64 ((i : Int) + (j : Int))
    simp only [IntKind.wrap, IntKind.signed, IntKind.bits, Bool.false_and, Bool.false_eq_true, if_false] at this
    omega
  rw [e, UInt64.toNat_ofNat']
  show (i + j) / 2 % _ = _
  omega
/-- sorted pieces of k each -/
def FB (k : Nat) (P : List ItV) : Prop := ∃ Ls : List (List ItV), P = Ls.flatten ∧ ∀ M ∈ Ls, M.length = k ∧ Srt M
/-- and one that is shorter -/
def BL (k : Nat) (l : List ItV) : Prop := ∃ (Ls : List (List ItV)) (R : List ItV), l = Ls.flatten ++ R ∧ (∀ M ∈ Ls, M.length = k ∧ Srt M) ∧ R.length < k ∧ Srt R
theorem FB.nil (k : Nat) : FB k [] := ⟨[], rfl, fun M h => by simp at h⟩
theorem FB.more {k : Nat} {P M : List ItV} (h : FB k P) (hl : M.length = k) (hs : Srt M) : FB k (P ++ M) := by
  obtain ⟨Ls, e, hL⟩ := h
  refine ⟨Ls ++ [M], by rw [e]; simp, fun N hN => ?_⟩
  rcases List.mem_append.1 hN with q | q
  · exact hL N q
  · simp at q; subst q; exact ⟨hl, hs⟩
theorem FB.end {k : Nat} {P R : List ItV} (h : FB k P) (hl : R.length < k) (hs : Srt R) : BL k (P ++ R) := by
  obtain ⟨Ls, e, hL⟩ := h
  exact ⟨Ls, R, by rw [e], hL, hl, hs⟩
theorem BL.whole {k : Nat} {l : List ItV} (h : BL k l) (hl : l.length ≤ k) : Srt l := by
  obtain ⟨Ls, R, e, hL, _, hs⟩ := h
  cases Ls with
  | nil => rw [e]; simpa using hs
  | cons M Ls =>
    have h1 := hL M (by simp)
    have : l.length = M.length + Ls.flatten.length + R.length := by rw [e]; simp; omega
    have e1 : Ls.flatten = [] := List.eq_nil_of_length_eq_zero (by omega)
    have e2 : R = [] := List.eq_nil_of_length_eq_zero (by omega)
    rw [e, List.flatten_cons, e1, e2]
    simpa using h1.2
theorem Stb.mid {l P M Q : List ItV} (h : Stb l (P ++ M ++ Q)) : Stb l (P ++ isort M ++ Q) := h.trans (Stb.append (Stb.append (.refl P) (isort_stb M)) (.refl Q))
end Go.Sl

/- Stable sorting of items: what the library's functions do, from the least on. -/
namespace Go.Sl
def cellsI (i : ItV) : List Value := bs i.k.val ++ [i.x.v]
instance : Row cellsI 33 := ⟨fun i => by simp [cellsI, bs_length, i.k.len], fun i u hu => by
  simp only [cellsI, List.mem_append, List.mem_singleton] at hu
  rcases hu with hu | hu
  · exact bs_one _ u hu
  · subst hu; rfl⟩
def Shp (v : Value) (N : Nat) : Prop := ∃ b o cap, v = .slice (some ⟨b, o, none⟩) N cap
theorem r_elPs {P : Program} {n : Nat} {s w : World} {a : Act} {E : List (Nat × Value)} {L : List HItem} {dst : Option Nat} {ty : TypeId} {pos : String} {aft : Array Edge} {g : Option (Nat × Bool)}
    (h : St n s a w E L) {t el : TypeId} {x ix : Operand} {v : Value} {N size by_ : Nat} {k1 : IntKind} {c : Int} (hx : ev E x = some v) (hi : ev E ix = some (.int k1 c)) (hu : P.underlying t = some (.slice el)) (hs : tsz P el = some (size, by_))
    (hv : Shp v N) (j : Nat) (hj : c = (j : Int)) (hlt : j < N) : (execOp a.eval ⟨dst, .indexAddr t x ix, ty, pos, aft, g⟩).run P w = .ok (.value (elP v (j * size))) w := by
  obtain ⟨b, o, cap, rfl⟩ := hv
  exact r_idx h hx hi hu hs rfl j hj hlt
theorem q_callV {P : Program} {n : Nat} {s : World} {a : Act} {E : List (Nat × Value)} {L : List HItem} {d : Nat} {ty : TypeId} {pos : String} {aft : Array Edge} {ops : Array Oper} {rest : List Oper} {v : Value} {QQ : Act → Prop}
    (hE : Env n a E) {y : Operand} {f : FuncId} {fs cs : Array Value} {xs : List Operand} {ats : Array TypeId} {vs : List Value} (hy : ev E y = some (.func (.func f) fs cs)) (hx : evs E xs = some vs) (hf : isGo P f = true)
    (hc : ∀ w, Sat s w L → Calls P f (fs ++ vs.toArray ++ cs) w (Ret s (fun _ : Unit => v) (fun _ => L) (fun _ => True))) (hd : Nat.blt d n = true)
    (k : ∀ a, Env n a ((d, v) :: E) → wpQuiet P ops (fun w => Sat s w L) QQ rest a) : wpQuiet P ops (fun w => Sat s w L) QQ (Oper.mk (some d) (.call { callee := .value y, args := xs.toArray, argTypes := ats }) ty pos aft none :: rest) a := by
  unfold wpQuiet
  rw [if_pos (by simp [Region.wanted])]
  refine ⟨v, fun w hw => ?_, k _ (hE.put hd v)⟩
  have he : (execOp a.eval (Oper.mk (some d) (.call { callee := .value y, args := xs.toArray, argTypes := ats }) ty pos aft none)).run P w = .ok (.enter f (fs ++ vs.toArray ++ cs)) w := by
    have : execOp a.eval (Oper.mk (some d) (.call { callee := .value y, args := xs.toArray, argTypes := ats }) ty pos aft none) = (do let q ← Deferred.ofValue (a.eval y) (xs.toArray.map a.eval); invoke q.target q.args) := rfl
    rw [this, hE.ev hy]
    show (callFunc f (fs ++ xs.toArray.map a.eval ++ cs)).run P w = _
    rw [run_callFunc_go hf]
    simp [hE.evs hx]
  unfold Oper.quietAt
  rw [he]
  exact ⟨rfl, (hc w hw).mono fun e w' ⟨_, he, hs, _⟩ => ⟨he, hs⟩⟩
theorem q_callVG {P : Program} {n : Nat} {s : World} {a : Act} {E : List (Nat × Value)} {L : List HItem} {d : Nat} {ty : TypeId} {pos : String} {aft : Array Edge} {ops : Array Oper} {rest : List Oper} {v : Value} {QQ : Act → Prop}
    (hE : Env n a E) {j : Nat} {b gg : Bool} (hg : Wants ops E j b gg) {y : Operand} {f : FuncId} {fs cs : Array Value} {xs : List Operand} {ats : Array TypeId} (hf : isGo P f = true)
    (hc : gg = true → ∃ E' vs, Env n a E' ∧ ev E' y = some (.func (.func f) fs cs) ∧ evs E' xs = some vs ∧ ∀ w, Sat s w L → Calls P f (fs ++ vs.toArray ++ cs) w (Ret s (fun _ : Unit => v) (fun _ => L) (fun _ => True))) (hd : Nat.blt d n = true)
    (k : ∀ a, Env n a ((d, gval gg v) :: E) → wpQuiet P ops (fun w => Sat s w L) QQ rest a) : wpQuiet P ops (fun w => Sat s w L) QQ (Oper.mk (some d) (.call { callee := .value y, args := xs.toArray, argTypes := ats }) ty pos aft (some (j, b)) :: rest) a := by
  have hw := hg.wanted hE
  cases gg with
  | true =>
    obtain ⟨E', vs, hE', hy, hx, hc⟩ := hc rfl
    unfold wpQuiet
    rw [if_pos (by simp [Region.wanted, hw])]
    refine ⟨v, fun w hw => ?_, k _ (hE.put hd v)⟩
    have he : (execOp a.eval (Oper.mk (some d) (.call { callee := .value y, args := xs.toArray, argTypes := ats }) ty pos aft (some (j, b)))).run P w = .ok (.enter f (fs ++ vs.toArray ++ cs)) w := by
      have : execOp a.eval (Oper.mk (some d) (.call { callee := .value y, args := xs.toArray, argTypes := ats }) ty pos aft (some (j, b))) = (do let q ← Deferred.ofValue (a.eval y) (xs.toArray.map a.eval); invoke q.target q.args) := rfl
      rw [this, hE'.ev hy]
      show (callFunc f (fs ++ xs.toArray.map a.eval ++ cs)).run P w = _
      rw [run_callFunc_go hf]
      simp [hE'.evs hx]
    unfold Oper.quietAt
    rw [he]
    exact ⟨rfl, (hc w hw).mono fun e w' ⟨_, he, hs, _⟩ => ⟨he, hs⟩⟩
  | false =>
    unfold wpQuiet
    rw [if_neg (by simp [Region.wanted, hw])]
    exact k _ (hE.put hd _)
theorem Sat.shp {s w : World} {L : List HItem} {v : Value} {l : List ItV} (h : Sat s w (OwnM 33 cellsI v l :: L)) (hl : 0 < l.length) : Shp v l.length := by
  obtain ⟨b, o, cap, e, _⟩ := ((Views.own 0 rfl : Views (OwnM 33 cellsI v l :: L) 33 v l.length (l.flatMap cellsI)) _ h.2.2.2).elP hl
  exact ⟨b, o, cap, e⟩
end Go.Sl
namespace Go.Proofs.K
open Go.Sl
attribute [local irreducible] Go.Sl.Own Go.Sl.Blk Go.Sl.Sep Go.Sl.Ex Go.Sl.Fact
theorem sl_isNaN (s w : World) (x : UInt8) (F : List HItem) (hs : Sat s w F) : Calls P n_cmp_isNaN_byte #[bv x] w (Ret s (fun _ : Unit => .bool false) (fun _ => F) (fun _ => True)) := by
  refine enter K.fn_cmp_isNaN_byte rfl K.nt_cmp_isNaN_byte rfl hs ?_
  clear hs w; intro a w h
  refine c_seq (c_region ?_)
  refine wv h (r_assign h rfl) rfl ?_
  clear h a w; intro a w h
  refine wnil (c_then ?_)
  refine c_seq (c_region ?_)
  refine wv h (r_move h rfl) rfl ?_
  clear h a w; intro a w h
  refine wv h (r_move h rfl) rfl ?_
  clear h a w; intro a w h
  refine wv h (r_bin h rfl rfl (B.neq_u8)) rfl ?_
  clear h a w; intro a w h
  refine wv h (r_assign h rfl) rfl ?_
  clear h a w; intro a w h
  refine wnil (c_then ?_)
  refine c_ret ?_
  exact ret1 h rfl rfl ⟨(), by simp, h.2, trivial⟩
/-- three answers -/
def cmp8 (x y : UInt8) : Int := if x < y then -1 else if y < x then 1 else 0
theorem sl_cmp (s w : World) (x y : UInt8) (F : List HItem) (hs : Sat s w F) : Calls P n_cmp_Compare_byte #[bv x, bv y] w (Ret s (fun _ : Unit => .int .i64 (cmp8 x y)) (fun _ => F) (fun _ => True)) := by
  refine enter K.fn_cmp_Compare_byte rfl K.nt_cmp_Compare_byte rfl hs ?_
  clear hs w; intro a w h
  refine c_seq (c_region ?_)
  refine wv h (r_assign h rfl) rfl ?_
  clear h a w; intro a w h
  refine wnil (c_then ?_)
  refine c_seq (c_region ?_)
  refine wv h (r_move h rfl) rfl ?_
  clear h a w; intro a w h
  refine wl rfl (op_call h rfl K.go_cmp_isNaN_byte (sl_isNaN s _ _ _ h.2) rfl ?_)
  clear h a w; intro z8 a w hz8 h
  (simp only [List.set_cons_zero, List.set_cons_succ] at h)
  refine wv h (r_assign h rfl) rfl ?_
  clear h a w; intro a w h
  refine wnil (c_then ?_)
  refine c_seq (c_region ?_)
  refine wv h (r_move h rfl) rfl ?_
  clear h a w; intro a w h
  refine wl rfl (op_call h rfl K.go_cmp_isNaN_byte (sl_isNaN s _ _ _ h.2) rfl ?_)
  clear h a w; intro z10 a w hz10 h
  refine wv h (r_assign h rfl) rfl ?_
  clear h a w; intro a w h
  refine wnil (c_then ?_)
  refine c_seq ?_
  refine c_seq (c_region ?_)
  refine wv h (r_move h rfl) rfl ?_
  clear h a w; intro a w h
  refine wnil (c_then ?_)
  refine c_condP (p := False) h rfl (by simp) (fun q => q.elim) (fun _ => ?_)
  refine c_skip ?_
  refine c_then ?_
  refine c_seq ?_
  refine c_seq (c_region ?_)
  refine wv h (r_move h rfl) rfl ?_
  clear h a w; intro a w h
  refine wnil (c_then ?_)
  refine c_condP (p := False) h rfl (by simp) (fun q => q.elim) (fun _ => ?_)
  refine c_skip ?_
  refine c_then ?_
  refine c_seq ?_
  refine c_seq (c_region ?_)
  refine wv h (r_move h rfl) rfl ?_
  clear h a w; intro a w h
  refine wv h (r_move h rfl) rfl ?_
  clear h a w; intro a w h
  refine wv h (r_bin h rfl rfl (B.lss_u8)) rfl ?_
  clear h a w; intro a w h
  refine wnil (c_then ?_)
  refine c_condP (p := x < y) h rfl (by simp) (fun ht3 => ?_) (fun ht3 => ?_)
  ·
   as_aux_lemma =>
    refine c_seq (c_region ?_)
    refine wv h (r_assign h rfl) rfl ?_
    clear h a w; intro a w h
    refine wnil (c_then ?_)
    refine c_ret ?_
    exact ret1 h rfl rfl ⟨(), by rw [cmp8, if_pos ht3], h.2, trivial⟩
  ·
   refine c_skip ?_
   refine c_then ?_
   refine c_seq ?_
   refine c_seq (c_region ?_)
   refine wv h (r_move h rfl) rfl ?_
   clear h a w; intro a w h
   refine wv h (r_move h rfl) rfl ?_
   clear h a w; intro a w h
   refine wv h (r_bin h rfl rfl (B.gtr_u8)) rfl ?_
   clear h a w; intro a w h
   refine wnil (c_then ?_)
   refine c_condP (p := y < x) h rfl (by simp) (fun ht4 => ?_) (fun ht4 => ?_)
   ·
    as_aux_lemma =>
     refine c_seq (c_region ?_)
     refine wv h (r_assign h rfl) rfl ?_
     clear h a w; intro a w h
     refine wnil (c_then ?_)
     refine c_ret ?_
     exact ret1 h rfl rfl ⟨(), by rw [cmp8, if_neg ht3, if_pos ht4], h.2, trivial⟩
   ·
    refine c_skip ?_
    refine c_then ?_
    refine c_seq (c_region ?_)
    refine wv h (r_assign h rfl) rfl ?_
    clear h a w; intro a w h
    refine wnil (c_then ?_)
    refine c_ret ?_
    exact ret1 h rfl rfl ⟨(), by rw [cmp8, if_neg ht3, if_neg ht4], h.2, trivial⟩
def cmpL : List UInt8 → List UInt8 → Int
  | [], [] => 0
  | [], _ :: _ => -1
  | _ :: _, [] => 1
  | x :: l, y :: m => if cmp8 x y ≠ 0 then cmp8 x y else cmpL l m
theorem cmp8_lt (x y : UInt8) : (cmp8 x y < 0 ↔ x < y) ∧ (cmp8 x y = 0 ↔ x = y) := by
  by_cases h1 : x < y
  · rw [cmp8, if_pos h1]
    refine ⟨by simp [h1], ⟨fun h => by omega, fun h => ?_⟩⟩
    subst h; rw [UInt8.lt_iff_toNat_lt] at h1; omega
  · rw [cmp8, if_neg h1]
    by_cases h2 : y < x
    · rw [if_pos h2]
      refine ⟨by simp [h1], ⟨fun h => by omega, fun h => ?_⟩⟩
      subst h; exact absurd h2 h1
    · rw [if_neg h2]
      refine ⟨by simp [h1], ⟨fun _ => ?_, fun _ => rfl⟩⟩
      rw [UInt8.lt_iff_toNat_lt] at h1 h2
      exact UInt8.toNat_inj.1 (by omega)
theorem cmpL_lt : ∀ (l m : List UInt8), cmpL l m < 0 ↔ Op.bytesLess l m = true
  | [], [] => by simp [cmpL, Op.bytesLess]
  | [], _ :: _ => by simp [cmpL, Op.bytesLess]
  | _ :: _, [] => by simp [cmpL, Op.bytesLess]
  | x :: l, y :: m => by
    obtain ⟨h1, h2⟩ := cmp8_lt x y
    rw [cmpL, bytesLess_cons']
    by_cases e : x = y
    · rw [if_neg (by rw [Ne, h2]; simp [e]), if_pos e]; exact cmpL_lt l m
    · rw [if_pos (by rw [Ne, h2]; exact e), if_neg e, decide_eq_true_iff]; exact h1
theorem sl_Compare (s w : World) (v u : Value) (l m : List UInt8) (F : List HItem) (hv : ViewsB F v l) (hu : ViewsB F u m) (hl : l.length ≤ 4294967296) (hm : m.length ≤ 4294967296) (hs : Sat s w F) :
    Calls P n_slices_Compare_byte_byte #[v, u] w (Ret s (fun _ : Unit => .int .i64 (cmpL l m)) (fun _ => F) (fun _ => True)) := by
  refine enter K.fn_slices_Compare_byte_byte rfl K.nt_slices_Compare_byte_byte rfl hs ?_
  clear hs w; intro a w h
  refine c_seq (c_region ?_)
  refine wv h (r_assign h rfl) rfl ?_
  clear h a w; intro a w h
  refine wnil (c_then ?_)
  refine c_seq ?_
  refine c_seq (c_region ?_)
  refine wv h (r_move h rfl) rfl ?_
  clear h a w; intro a w h
  refine wv h (r_lenB h rfl K.u_S_uint8 (by assumption)) rfl ?_
  clear h a w; intro a w h
  refine wv h (r_move h rfl) rfl ?_
  clear h a w; intro a w h
  refine wnil (c_then ?_)
  refine c_block ?_
  refine c_loop (X := Nat) (fun i => [(0, v), (1, u), (9, v), (10, .int .i64 (l.length : Int)), (11, .int .i64 (i : Int))]) (fun _ => F) (fun i => i ≤ l.length ∧ i ≤ m.length ∧ cmpL l m = cmpL (l.drop i) (m.drop i)) (fun i => l.length - i) 0 (h.keep [0, 1, 9, 10, 11]) ⟨Nat.zero_le _, Nat.zero_le _, rfl⟩ ?_
  clear h a w; intro i a w hi h
  obtain ⟨h1, h2, h3⟩ := hi
  as_aux_lemma =>
   refine c_seq (c_region ?_)
   refine wv h (r_bin h rfl rfl (B.lss_int)) rfl ?_
   clear h a w; intro a w h
   refine wnil (c_then ?_)
   refine c_seq ?_
   refine c_condP (p := i < l.length) h rfl (by simp) (fun ht1 => ?_) (fun ht1 => ?_)
   ·
    have dl : l.drop i = l.getD i 0 :: l.drop (i + 1) := by rw [List.drop_eq_getElem_cons ht1]; congr 1; rw [List.getD_eq_getElem?_getD, List.getElem?_eq_getElem ht1]; rfl
    refine c_skip ?_
    refine c_then ?_
    refine c_seq ?_
    refine c_block ?_
    refine c_seq (c_region ?_)
    refine wv h (r_move h rfl) rfl ?_
    clear h a w; intro a w h
    refine wv h (r_elP h rfl rfl K.u_S_uint8 K.sz_uint8 (by assumption) (by omega) (by omega)) rfl ?_
    clear h a w; intro a w h
    refine wv h (r_elb h rfl K.u_uint8 rfl (by assumption) (by omega)) rfl ?_
    clear h a w; intro a w h
    refine wv h (r_assign h rfl) rfl ?_
    clear h a w; intro a w h
    refine wv h (r_assign h rfl) rfl ?_
    clear h a w; intro a w h
    refine wnil (c_then ?_)
    refine c_seq ?_
    refine c_seq (c_region ?_)
    refine wv h (r_move h rfl) rfl ?_
    clear h a w; intro a w h
    refine wv h (r_move h rfl) rfl ?_
    clear h a w; intro a w h
    refine wv h (r_lenB h rfl K.u_S_uint8 (by assumption)) rfl ?_
    clear h a w; intro a w h
    refine wv h (r_bin h rfl rfl (B.geq_int)) rfl ?_
    clear h a w; intro a w h
    refine wnil (c_then ?_)
    refine c_condP (p := m.length ≤ i) h rfl (by simp) (fun ht2 => ?_) (fun ht2 => ?_)
    ·
     as_aux_lemma =>
      refine c_seq (c_region ?_)
      refine wv h (r_assign h rfl) rfl ?_
      clear h a w; intro a w h
      refine wnil (c_then ?_)
      refine c_ret ?_
      rw [dl, List.drop_eq_nil_of_le ht2] at h3
      exact ret1 h rfl rfl ⟨(), by rw [h3]; rfl, h.2, trivial⟩
    ·
     have hlt2 : i < m.length := by omega
     have dm : m.drop i = m.getD i 0 :: m.drop (i + 1) := by rw [List.drop_eq_getElem_cons hlt2]; congr 1; rw [List.getD_eq_getElem?_getD, List.getElem?_eq_getElem hlt2]; rfl
     rw [dl, dm, cmpL] at h3
     refine c_skip ?_
     refine c_then ?_
     refine c_seq (c_region ?_)
     refine wv h (r_move h rfl) rfl ?_
     clear h a w; intro a w h
     refine wv h (r_move h rfl) rfl ?_
     clear h a w; intro a w h
     refine wv h (r_elP h rfl rfl K.u_S_uint8 K.sz_uint8 (by assumption) (by omega) (by omega)) rfl ?_
     clear h a w; intro a w h
     refine wv h (r_elb h rfl K.u_uint8 rfl (by assumption) (by omega)) rfl ?_
     clear h a w; intro a w h
     refine wv h (r_assign h rfl) rfl ?_
     clear h a w; intro a w h
     refine wnil (c_then ?_)
     refine c_seq (c_region ?_)
     refine wv h (r_move h rfl) rfl ?_
     clear h a w; intro a w h
     refine wv h (r_move h rfl) rfl ?_
     clear h a w; intro a w h
     refine wl rfl (op_call h rfl K.go_cmp_Compare_byte (sl_cmp s _ _ _ _ h.2) rfl ?_)
     clear h a w; intro z26 a w hz26 h
     refine wv h (r_assign h rfl) rfl ?_
     clear h a w; intro a w h
     refine wnil (c_then ?_)
     refine c_seq (c_region ?_)
     refine wv h (r_move h rfl) rfl ?_
     clear h a w; intro a w h
     refine wv h (r_bin h rfl rfl (B.neq_int)) rfl ?_
     clear h a w; intro a w h
     refine wnil (c_then ?_)
     refine c_condP (p := cmp8 (l.getD i 0) (m.getD i 0) ≠ 0) h rfl (by simp) (fun ht3 => ?_) (fun ht3 => ?_)
     ·
      as_aux_lemma =>
       refine c_seq (c_region ?_)
       refine wv h (r_move h rfl) rfl ?_
       clear h a w; intro a w h
       refine wv h (r_assign h rfl) rfl ?_
       clear h a w; intro a w h
       refine wnil (c_then ?_)
       refine c_ret ?_
       rw [if_pos ht3] at h3
       exact ret1 h rfl rfl ⟨(), by rw [h3], h.2, trivial⟩
     ·
      refine c_skip ?_
      refine b_normal ?_
      refine c_then ?_
      refine c_region ?_
      refine wv h (r_bin h rfl rfl (B.add_i64 (by omega) (by omega))) rfl ?_
      clear h a w; intro a w h
      refine wv h (r_move h rfl) rfl ?_
      clear h a w; intro a w h
      refine wnil ?_
      rw [if_neg ht3] at h3
      exact ⟨i + 1, h.keep [0, 1, 9, 10, 11], ⟨ht1, hlt2, h3⟩, by omega⟩
   ·
    refine c_exit ?_
    refine e_then ?_
    refine e_then ?_
    refine e_here ?_
    refine c_then ?_
    refine c_seq ?_
    refine c_seq (c_region ?_)
    refine wv h (r_move h rfl) rfl ?_
    clear h a w; intro a w h
    refine wv h (r_lenB h rfl K.u_S_uint8 (by assumption)) rfl ?_
    clear h a w; intro a w h
    refine wv h (r_move h rfl) rfl ?_
    clear h a w; intro a w h
    refine wv h (r_lenB h rfl K.u_S_uint8 (by assumption)) rfl ?_
    clear h a w; intro a w h
    refine wv h (r_bin h rfl rfl (B.lss_int)) rfl ?_
    clear h a w; intro a w h
    refine wnil (c_then ?_)
    refine c_condP (p := l.length < m.length) h rfl (by simp) (fun ht4 => ?_) (fun ht4 => ?_)
    ·
     as_aux_lemma =>
      refine c_seq (c_region ?_)
      refine wv h (r_assign h rfl) rfl ?_
      clear h a w; intro a w h
      refine wnil (c_then ?_)
      refine c_ret ?_
      rw [List.drop_eq_nil_of_le (by omega), List.drop_eq_getElem_cons (show i < m.length by omega)] at h3
      exact ret1 h rfl rfl ⟨(), by rw [h3]; rfl, h.2, trivial⟩
    ·
     refine c_skip ?_
     refine c_then ?_
     refine c_seq (c_region ?_)
     refine wv h (r_assign h rfl) rfl ?_
     clear h a w; intro a w h
     refine wnil (c_then ?_)
     refine c_ret ?_
     rw [List.drop_eq_nil_of_le (by omega), List.drop_eq_nil_of_le (by omega)] at h3
     exact ret1 h rfl rfl ⟨(), by rw [h3]; rfl, h.2, trivial⟩
def itV (i : ItV) : Value := .agg ⟨cellsI i⟩
theorem key_view {L : List HItem} {b : Nat} {T : TypeId} (i : ItV) (j : Nat) (hj : L[j]? = some (Blk b (.cells ⟨cellsI i⟩ T))) : ViewsB L (.slice (some ⟨b, 0, none⟩) 32 32) i.k.val := by
  have e : i.k.val.length = 32 := i.k.len
  unfold ViewsB
  rw [e]
  exact Views.blk j hj rfl rfl (by show (List.drop 0 (bs i.k.val ++ _)).take (32 * 1) = _; rw [List.drop_zero, List.take_left' (by rw [bs_length, e])]) (by rw [bs_length, e])
theorem srt_1 (s w : World) (x y : ItV) (F : List HItem) (hs : Sat s w F) :
    Calls P n_pack_sorted_1 #[itV x, itV y] w (Ret s (fun _ : Unit => .int .i64 (cmpL x.k.val y.k.val)) (fun _ => F) (fun _ => True)) := by
  refine enter K.fn_pack_sorted_1 rfl K.nt_pack_sorted_1 rfl hs ?_
  clear hs w; intro a w h
  unfold itV at h
  refine c_seq (c_region ?_)
  refine wl rfl (op_box h rfl rfl ?_)
  clear h a w; intro b2 a w h
  try simp only [Value.cells] at h
  refine wl rfl (op_box h rfl rfl ?_)
  clear h a w; intro b3 a w h
  try simp only [Value.cells] at h
  refine wv h (r_assign h rfl) rfl ?_
  clear h a w; intro a w h
  refine wnil (c_then ?_)
  refine c_seq (c_draw K.mixed (by kernel_rfl) h ?_)
  clear h a w; intro a hE
  refine qv hE (fun w hw => r_fieldAddr0 ⟨hE, hw⟩ rfl K.u_pack_item rfl K.sz_api_Key rfl rfl) rfl ?_
  clear hE a; intro a hE
  refine qv hE (fun w hw => r_sliceA ⟨hE, hw⟩ rfl K.u_api_Key K.sz_uint8 rfl) rfl ?_
  clear hE a; intro a hE
  refine qv hE (fun w hw => r_fieldAddr0 ⟨hE, hw⟩ rfl K.u_pack_item rfl K.sz_api_Key rfl rfl) rfl ?_
  clear hE a; intro a hE
  refine qv hE (fun w hw => r_sliceA ⟨hE, hw⟩ rfl K.u_api_Key K.sz_uint8 rfl) rfl ?_
  clear hE a; intro a hE
  refine q_c hE rfl K.go_slices_Compare_byte_byte (fun w hw => sl_Compare s _ (.slice (some ⟨b2, 0, none⟩) 32 32) (.slice (some ⟨b3, 0, none⟩) 32 32) x.k.val y.k.val _ (key_view x 1 rfl) (key_view y 0 rfl) (by rw [x.k.len]; decide) (by rw [y.k.len]; decide) hw) rfl ?_
  clear hE a; intro a hE
  refine qv hE (fun w hw => r_assign ⟨hE, hw⟩ rfl) rfl ?_
  clear hE a; intro a hE
  refine qnil hE ?_
  clear hE a; intro a w h
  refine c_then ?_
  refine c_ret ?_
  exact ret1 h rfl rfl ⟨(), rfl, h.2.drop 2, trivial⟩
theorem srt_2 (s w : World) (x y : ItV) (F : List HItem) (hs : Sat s w F) :
    Calls P n_pack_sorted_2 #[itV x, itV y] w (Ret s (fun _ : Unit => .bool (decide (x.k = y.k))) (fun _ => F) (fun _ => True)) := by
  refine enter K.fn_pack_sorted_2 rfl K.nt_pack_sorted_2 rfl hs ?_
  clear hs w; intro a w h
  unfold itV at h
  refine c_seq (c_region ?_)
  refine wl rfl (op_box h rfl rfl ?_)
  clear h a w; intro b2 a w h
  try simp only [Value.cells] at h
  refine wl rfl (op_box h rfl rfl ?_)
  clear h a w; intro b3 a w h
  try simp only [Value.cells] at h
  refine wv h (r_assign h rfl) rfl ?_
  clear h a w; intro a w h
  refine wnil (c_then ?_)
  have hx32 : (cellsI x).take 32 = bs x.k.val := by show (bs x.k.val ++ _).take 32 = _; rw [List.take_left' (by rw [bs_length, x.k.len])]
  have hy32 : (cellsI y).take 32 = bs y.k.val := by show (bs y.k.val ++ _).take 32 = _; rw [List.take_left' (by rw [bs_length, y.k.len])]
  refine c_seq (c_region ?_)
  refine wv h (r_fieldAddr0 h rfl K.u_pack_item rfl K.sz_api_Key rfl rfl) rfl ?_
  clear h a w; intro a w h
  refine wv h (r_ldF (o := 0) (us := bs x.k.val) h rfl K.u_api_Key rfl K.sz_api_Key 1 rfl hx32 (by rw [bs_length, x.k.len])) rfl ?_
  clear h a w; intro a w h
  refine wv h (r_fieldAddr0 h rfl K.u_pack_item rfl K.sz_api_Key rfl rfl) rfl ?_
  clear h a w; intro a w h
  refine wv h (r_ldF (o := 0) (us := bs y.k.val) h rfl K.u_api_Key rfl K.sz_api_Key 0 rfl hy32 (by rw [bs_length, y.k.len])) rfl ?_
  clear h a w; intro a w h
  refine wv h (r_arreq h rfl rfl K.u_api_Key K.u_uint8 K.sz_uint8 (by kernel_rfl) (by (simp; done)) (by (simp; done))) rfl ?_
  clear h a w; intro a w h
  refine wv h (r_assign h rfl) rfl ?_
  clear h a w; intro a w h
  refine wnil (c_then ?_)
  refine c_ret ?_
  exact ret1 h rfl rfl ⟨(), by rw [show decide (x.k.val = y.k.val) = decide (x.k = y.k) from decide_eq_decide.2 ⟨BA.ext', fun e => by rw [e]⟩], h.2.drop 2, trivial⟩
def cmpV : Value := .func (.func n_pack_sorted_1) #[] #[]
theorem srt_call (s w : World) (x y : ItV) (F : List HItem) (hs : Sat s w F) :
    Calls P n_pack_sorted_1 (#[] ++ [itV x, itV y].toArray ++ #[]) w (Ret s (fun _ : Unit => .int .i64 (cmpL x.k.val y.k.val)) (fun _ => F) (fun _ => True)) := srt_1 s w x y F hs
theorem cmp_lt (x y : ItV) : decide (cmpL x.k.val y.k.val < 0) = lt x y := by
  have := cmpL_lt x.k.val y.k.val
  unfold lt
  cases h : Op.bytesLess x.k.val y.k.val with
  | true => exact decide_eq_true (this.2 h)
  | false => exact decide_eq_false (fun q => by rw [this.1 q] at h; cases h)
end Go.Proofs.K

/- Stable sorting of items: ranges that change places. -/
namespace Go.Proofs.K
open Go.Sl
attribute [local irreducible] Go.Sl.Own Go.Sl.Blk Go.Sl.Sep Go.Sl.Ex Go.Sl.Fact
theorem sl_swapRange (s w : World) (v gv : Value) (l : List ItV) (a0 b0 n : Nat) (F : List HItem) (ha : a0 + n ≤ b0) (hb : b0 + n ≤ l.length) (hl : l.length ≤ 4000000) (hs : Sat s w (OwnM 33 cellsI v l :: F)) :
    Calls P n_slices_swapRangeCmpFunc_pack_item #[v, .int .i64 (a0 : Int), .int .i64 (b0 : Int), .int .i64 (n : Int), gv] w (Ret s (fun _ : Unit => .tuple #[]) (fun _ => OwnM 33 cellsI v (swpN l a0 b0 n) :: F) (fun _ => True)) := by
  refine enter K.fn_slices_swapRangeCmpFunc_pack_item rfl K.nt_slices_swapRangeCmpFunc_pack_item rfl hs ?_
  clear hs w; intro a w h
  refine c_seq (c_region ?_)
  refine wv h (r_assign h rfl) rfl ?_
  clear h a w; intro a w h
  refine wnil (c_then ?_)
  refine c_block ?_
  refine c_loop (X := Nat) (fun i => [(0, v), (1, .int .i64 (a0 : Int)), (2, .int .i64 (b0 : Int)), (3, .int .i64 (n : Int)), (10, .int .i64 (i : Int))]) (fun i => OwnM 33 cellsI v (swpN l a0 b0 i) :: F) (fun i => i ≤ n) (fun i => n - i) 0 (h.keep [0, 1, 2, 3, 10]) (Nat.zero_le _) ?_
  clear h a w; intro i a w hi h
  as_aux_lemma =>
   refine c_seq ?_
   refine c_seq (c_region ?_)
   refine wv h (r_move h rfl) rfl ?_
   clear h a w; intro a w h
   refine wv h (r_move h rfl) rfl ?_
   clear h a w; intro a w h
   refine wv h (r_bin h rfl rfl (B.lss_int)) rfl ?_
   clear h a w; intro a w h
   refine wnil (c_then ?_)
   refine c_condP (p := i < n) h rfl (by simp) (fun ht1 => ?_) (fun ht1 => ?_)
   ·
    obtain ⟨cur, hcur⟩ : ∃ cur, cur = swpN l a0 b0 i := ⟨_, rfl⟩
    rw [← hcur] at h
    have hcl : cur.length = l.length := by rw [hcur, swpN_len]
    obtain ⟨x, hx⟩ : ∃ x, cur[a0 + i]? = some x := ⟨_, List.getElem?_eq_getElem (by omega)⟩
    obtain ⟨y, hy⟩ : ∃ y, cur[b0 + i]? = some y := ⟨_, List.getElem?_eq_getElem (by omega)⟩
    have hsp : Shp v cur.length := Sat.shp h.2 (by omega)
    refine c_skip ?_
    refine c_then ?_
    refine c_seq ?_
    refine c_block ?_
    refine c_drawn 24 K.mixed rfl h ?_
    clear h a w; intro a w h
    have hD : Paid s w [] := Paid.nil
    refine d_take0 (listed' := #[true, false, false, false, false, false, false, false, false, false, false, false, false, false, false, false, false, false, false, false, false, false, false, false]) h hD 0 (by as_aux_lemma => kernel_rfl) rfl (by as_aux_lemma => kernel_rfl) (by as_aux_lemma => kernel_rfl) (by as_aux_lemma => kernel_rfl) (fun _ _ _ _ hh => hh) (fun w h => by exact r_move h rfl) rfl ?_
    clear hD h a w; intro a w h hD
    refine d_take0 (listed' := #[true, true, false, false, false, false, false, false, false, false, false, false, false, false, false, false, false, false, false, false, false, false, false, false]) h hD 1 (by as_aux_lemma => kernel_rfl) rfl (by as_aux_lemma => kernel_rfl) (by as_aux_lemma => kernel_rfl) (by as_aux_lemma => kernel_rfl) (fun _ _ _ _ hh => hh) (fun w h => by exact r_move h rfl) rfl ?_
    clear hD h a w; intro a w h hD
    refine d_take0 (listed' := #[true, true, true, false, false, false, false, false, false, false, false, false, false, false, false, false, false, false, false, false, false, false, false, false]) h hD 2 (by as_aux_lemma => kernel_rfl) rfl (by as_aux_lemma => kernel_rfl) (by as_aux_lemma => kernel_rfl) (by as_aux_lemma => kernel_rfl) (fun _ _ _ _ hh => hh) (fun w h => by exact r_move h rfl) rfl ?_
    clear hD h a w; intro a w h hD
    refine d_take0 (listed' := #[true, true, true, true, false, false, false, false, false, false, false, false, false, false, false, false, false, false, false, false, false, false, false, false]) h hD 3 (by as_aux_lemma => kernel_rfl) rfl (by as_aux_lemma => kernel_rfl) (by as_aux_lemma => kernel_rfl) (by as_aux_lemma => kernel_rfl) (fun _ _ _ _ hh => hh) (fun w h => by exact r_bin h rfl rfl (B.add_i64 (by omega) (by omega))) rfl ?_
    clear hD h a w; intro a w h hD
    refine d_take0 (listed' := #[true, true, true, true, true, false, false, false, false, false, false, false, false, false, false, false, false, false, false, false, false, false, false, false]) h hD 4 (by as_aux_lemma => kernel_rfl) rfl (by as_aux_lemma => kernel_rfl) (by as_aux_lemma => kernel_rfl) (by as_aux_lemma => kernel_rfl) (fun _ _ _ _ hh => hh) (fun w h => by exact r_move h rfl) rfl ?_
    clear hD h a w; intro a w h hD
    refine d_take0 (listed' := #[true, true, true, true, true, true, false, false, false, false, false, false, false, false, false, false, false, false, false, false, false, false, false, false]) h hD 5 (by as_aux_lemma => kernel_rfl) rfl (by as_aux_lemma => kernel_rfl) (by as_aux_lemma => kernel_rfl) (by as_aux_lemma => kernel_rfl) (fun _ _ _ _ hh => hh) (fun w h => by exact r_move h rfl) rfl ?_
    clear hD h a w; intro a w h hD
    refine d_take0 (listed' := #[true, true, true, true, true, true, true, false, false, false, false, false, false, false, false, false, false, false, false, false, false, false, false, false]) h hD 6 (by as_aux_lemma => kernel_rfl) rfl (by as_aux_lemma => kernel_rfl) (by as_aux_lemma => kernel_rfl) (by as_aux_lemma => kernel_rfl) (fun _ _ _ _ hh => hh) (fun w h => by exact r_move h rfl) rfl ?_
    clear hD h a w; intro a w h hD
    refine d_take0 (listed' := #[true, true, true, true, true, true, true, true, false, false, false, false, false, false, false, false, false, false, false, false, false, false, false, false]) h hD 7 (by as_aux_lemma => kernel_rfl) rfl (by as_aux_lemma => kernel_rfl) (by as_aux_lemma => kernel_rfl) (by as_aux_lemma => kernel_rfl) (fun _ _ _ _ hh => hh) (fun w h => by exact r_bin h rfl rfl (B.add_i64 (by omega) (by omega))) rfl ?_
    clear hD h a w; intro a w h hD
    refine d_take0 (listed' := #[true, true, true, true, true, true, true, true, true, false, false, false, false, false, false, false, false, false, false, false, false, false, false, false]) h hD 8 (by as_aux_lemma => kernel_rfl) rfl (by as_aux_lemma => kernel_rfl) (by as_aux_lemma => kernel_rfl) (by as_aux_lemma => kernel_rfl) (fun _ _ _ _ hh => hh) (fun w h => by exact r_move h rfl) rfl ?_
    clear hD h a w; intro a w h hD
    refine d_take0 (listed' := #[true, true, true, true, true, true, true, true, true, true, false, false, false, false, false, false, false, false, false, false, false, false, false, false]) h hD 9 (by as_aux_lemma => kernel_rfl) rfl (by as_aux_lemma => kernel_rfl) (by as_aux_lemma => kernel_rfl) (by as_aux_lemma => kernel_rfl) (fun _ _ _ _ hh => hh) (fun w h => by exact r_move h rfl) rfl ?_
    clear hD h a w; intro a w h hD
    refine d_take0 (listed' := #[true, true, true, true, true, true, true, true, true, true, true, false, false, false, false, false, false, false, false, false, false, false, false, false]) h hD 10 (by as_aux_lemma => kernel_rfl) rfl (by as_aux_lemma => kernel_rfl) (by as_aux_lemma => kernel_rfl) (by as_aux_lemma => kernel_rfl) (fun _ _ _ _ hh => hh) (fun w h => by exact r_move h rfl) rfl ?_
    clear hD h a w; intro a w h hD
    refine d_take0 (listed' := #[true, true, true, true, true, true, true, true, true, true, true, true, false, false, false, false, false, false, false, false, false, false, false, false]) h hD 11 (by as_aux_lemma => kernel_rfl) rfl (by as_aux_lemma => kernel_rfl) (by as_aux_lemma => kernel_rfl) (by as_aux_lemma => kernel_rfl) (fun _ _ _ _ hh => hh) (fun w h => by exact r_bin h rfl rfl (B.add_i64 (by omega) (by omega))) rfl ?_
    clear hD h a w; intro a w h hD
    refine d_take (listed' := #[true, true, true, true, true, true, true, true, true, true, true, true, true, false, false, false, false, false, false, false, false, false, false, false]) h hD 12 _ (by as_aux_lemma => kernel_rfl) rfl (by as_aux_lemma => kernel_rfl) (by as_aux_lemma => kernel_rfl) (by as_aux_lemma => kernel_rfl) (fun _ _ _ _ hh => hh) h.2 (fun w hw => by exact r_elPs ⟨h.1, hw⟩ rfl rfl K.u_S_pack_item K.sz_pack_item hsp (b0 + i) rfl (by omega)) rfl ?_
    clear hD h a w; intro a w h hD
    refine d_take (listed' := #[true, true, true, true, true, true, true, true, true, true, true, true, true, true, false, false, false, false, false, false, false, false, false, false]) h hD 13 _ (by as_aux_lemma => kernel_rfl) rfl (by as_aux_lemma => kernel_rfl) (by as_aux_lemma => kernel_rfl) (by as_aux_lemma => kernel_rfl) (fun _ _ _ _ hh => hh) h.2 (fun w hw => by exact r_elM (cells := cellsI) ⟨h.1, hw⟩ rfl K.u_pack_item rfl K.sz_pack_item rfl (Views.own 0 rfl) hy) rfl ?_
    clear hD h a w; intro a w h hD
    refine d_take0 (listed' := #[true, true, true, true, true, true, true, true, true, true, true, true, true, true, true, false, false, false, false, false, false, false, false, false]) h hD 14 (by as_aux_lemma => kernel_rfl) rfl (by as_aux_lemma => kernel_rfl) (by as_aux_lemma => kernel_rfl) (by as_aux_lemma => kernel_rfl) (fun _ _ _ _ hh => hh) (fun w h => by exact r_move h rfl) rfl ?_
    clear hD h a w; intro a w h hD
    refine d_take0 (listed' := #[true, true, true, true, true, true, true, true, true, true, true, true, true, true, true, true, false, false, false, false, false, false, false, false]) h hD 15 (by as_aux_lemma => kernel_rfl) rfl (by as_aux_lemma => kernel_rfl) (by as_aux_lemma => kernel_rfl) (by as_aux_lemma => kernel_rfl) (fun _ _ _ _ hh => hh) (fun w h => by exact r_move h rfl) rfl ?_
    clear hD h a w; intro a w h hD
    refine d_take0 (listed' := #[true, true, true, true, true, true, true, true, true, true, true, true, true, true, true, true, true, false, false, false, false, false, false, false]) h hD 16 (by as_aux_lemma => kernel_rfl) rfl (by as_aux_lemma => kernel_rfl) (by as_aux_lemma => kernel_rfl) (by as_aux_lemma => kernel_rfl) (fun _ _ _ _ hh => hh) (fun w h => by exact r_move h rfl) rfl ?_
    clear hD h a w; intro a w h hD
    refine d_take0 (listed' := #[true, true, true, true, true, true, true, true, true, true, true, true, true, true, true, true, true, true, false, false, false, false, false, false]) h hD 17 (by as_aux_lemma => kernel_rfl) rfl (by as_aux_lemma => kernel_rfl) (by as_aux_lemma => kernel_rfl) (by as_aux_lemma => kernel_rfl) (fun _ _ _ _ hh => hh) (fun w h => by exact r_bin h rfl rfl (B.add_i64 (by omega) (by omega))) rfl ?_
    clear hD h a w; intro a w h hD
    refine d_take (listed' := #[true, true, true, true, true, true, true, true, true, true, true, true, true, true, true, true, true, true, true, false, false, false, false, false]) h hD 18 (F) (by as_aux_lemma => kernel_rfl) rfl (by as_aux_lemma => kernel_rfl) (by as_aux_lemma => kernel_rfl) (by as_aux_lemma => kernel_rfl) (fun _ _ _ _ hh => hh) (by exact h.2.drop 1) (fun w hw => by exact r_elPs ⟨h.1, hw⟩ rfl rfl K.u_S_pack_item K.sz_pack_item hsp (a0 + i) rfl (by omega)) rfl ?_
    clear hD h a w; intro a w h hD
    refine d_take (listed' := #[true, true, true, true, true, true, true, true, true, true, true, true, true, true, true, true, true, true, true, true, false, false, false, false]) h hD 19 _ (by as_aux_lemma => kernel_rfl) rfl (by as_aux_lemma => kernel_rfl) (by as_aux_lemma => kernel_rfl) (by as_aux_lemma => kernel_rfl) (fun _ _ _ _ hh => hh) h.2 (fun w hw => by exact r_elM (cells := cellsI) ⟨h.1, hw⟩ rfl K.u_pack_item rfl K.sz_pack_item rfl (Views.own 0 rfl) hx) rfl ?_
    clear hD h a w; intro a w h hD
    refine d_take (listed' := #[true, true, true, true, true, true, true, true, true, true, true, true, true, true, true, true, true, true, true, true, true, false, false, false]) h hD 20 (F) (by as_aux_lemma => kernel_rfl) rfl (by as_aux_lemma => kernel_rfl) (by as_aux_lemma => kernel_rfl) (by as_aux_lemma => kernel_rfl) (fun _ _ _ _ hh => hh) (by exact h.2.drop 1) (fun w hw => by exact r_elPs ⟨h.1, hw⟩ rfl rfl K.u_S_pack_item K.sz_pack_item hsp (a0 + i) rfl (by omega)) rfl ?_
    clear hD h a w; intro a w h hD
    refine d_only (listed' := #[true, true, true, true, true, true, true, true, true, true, true, true, true, true, true, true, true, true, true, true, true, true, false, false]) 21 [false, false, true, false, false] (by as_aux_lemma => kernel_rfl) rfl rfl (by as_aux_lemma => kernel_rfl) (by as_aux_lemma => kernel_rfl) ?_
    refine op_storeR h rfl rfl K.sz_pack_item 0 rfl (by omega) ?_
    clear hD h a w; intro a w h
    (simp only [List.set_cons_zero, List.set_cons_succ] at h)
    refine d_pay (Paid.cons (by exact h.2.drop 1) (Paid.nil)) (fun hD => ?_)
    refine d_take (listed' := #[true, true, true, true, true, true, true, true, true, true, true, true, true, true, true, true, true, true, true, true, true, true, true, false]) h hD 22 _ (by as_aux_lemma => kernel_rfl) rfl (by as_aux_lemma => kernel_rfl) (by as_aux_lemma => kernel_rfl) (by as_aux_lemma => kernel_rfl) (fun _ _ _ _ hh => hh) h.2 (fun w hw => by exact r_elPs ⟨h.1, hw⟩ rfl rfl K.u_S_pack_item K.sz_pack_item hsp (b0 + i) rfl (by omega)) rfl ?_
    clear hD h a w; intro a w h hD
    refine d_only (listed' := #[true, true, true, true, true, true, true, true, true, true, true, true, true, true, true, true, true, true, true, true, true, true, true, true]) 23 [false, false] (by as_aux_lemma => kernel_rfl) rfl rfl (by as_aux_lemma => kernel_rfl) (by as_aux_lemma => kernel_rfl) ?_
    refine op_storeR h rfl rfl K.sz_pack_item 0 rfl (by (simp; omega)) ?_
    clear hD h a w; intro a w h
    (simp only [List.set_cons_zero, List.set_cons_succ] at h)
    refine d_pay (Paid.nil) (fun hD => ?_)
    refine d_done (by kernel_rfl) ?_
    clear hD
    refine b_normal ?_
    refine c_then ?_
    refine c_region ?_
    refine wv h (r_move h rfl) rfl ?_
    clear h a w; intro a w h
    refine wv h (r_bin h rfl rfl (B.add_i64 (by omega) (by omega))) rfl ?_
    clear h a w; intro a w h
    refine wv h (r_assign h rfl) rfl ?_
    clear h a w; intro a w h
    refine wnil ?_
    have e : (cur.set (a0 + i) y).set (b0 + i) x = swpN l a0 b0 (i + 1) := by rw [swpN, ← hcur, swp_eq hx hy]
    rw [e] at h
    exact ⟨i + 1, h.keep [0, 1, 2, 3, 10], ht1, by omega⟩
   ·
    refine c_exit ?_
    refine e_then ?_
    refine e_then ?_
    refine e_here ?_
    obtain rfl : i = n := by omega
    exact end0 h rfl ⟨(), rfl, h.2, trivial⟩
theorem cut_take (l : List ItV) (k : Nat) : l = l.take k ++ l.drop k := (List.take_append_drop k l).symm
theorem sl_rotate (s w : World) (v gv : Value) (P0 X0 Y0 Q0 : List ItV) (a0 m b0 : Nat) (F : List HItem) (hx0 : 0 < X0.length) (hy0 : 0 < Y0.length) (ha : a0 = P0.length) (hm : m = P0.length + X0.length) (hb : b0 = m + Y0.length)
    (hl : (P0 ++ X0 ++ Y0 ++ Q0).length ≤ 4000000) (hs : Sat s w (OwnM 33 cellsI v (P0 ++ X0 ++ Y0 ++ Q0) :: F)) :
    Calls P n_slices_rotateCmpFunc_pack_item #[v, .int .i64 (a0 : Int), .int .i64 (m : Int), .int .i64 (b0 : Int), gv] w (Ret s (fun _ : Unit => .tuple #[]) (fun _ => OwnM 33 cellsI v (P0 ++ Y0 ++ X0 ++ Q0) :: F) (fun _ => True)) := by
  simp only [List.length_append] at hl
  refine enter K.fn_slices_rotateCmpFunc_pack_item rfl K.nt_slices_rotateCmpFunc_pack_item rfl hs ?_
  clear hs w; intro a w h
  refine c_seq (c_region ?_)
  refine wv h (r_move h rfl) rfl ?_
  clear h a w; intro a w h
  refine wv h (r_move h rfl) rfl ?_
  clear h a w; intro a w h
  refine wv h (r_bin h rfl rfl (B.sub_i64 (by omega) (by omega))) rfl ?_
  clear h a w; intro a w h
  rw [show ((m : Int) - (a0 : Int)) = (X0.length : Int) by omega] at h
  refine wv h (r_assign h rfl) rfl ?_
  clear h a w; intro a w h
  refine wnil (c_then ?_)
  refine c_seq (c_region ?_)
  refine wv h (r_move h rfl) rfl ?_
  clear h a w; intro a w h
  refine wv h (r_move h rfl) rfl ?_
  clear h a w; intro a w h
  refine wv h (r_bin h rfl rfl (B.sub_i64 (by omega) (by omega))) rfl ?_
  clear h a w; intro a w h
  rw [show ((b0 : Int) - (m : Int)) = (Y0.length : Int) by omega] at h
  refine wv h (r_assign h rfl) rfl ?_
  clear h a w; intro a w h
  refine wnil (c_then ?_)
  refine c_seq ?_
  refine c_block ?_
  refine c_loop (X := List ItV × List ItV × List ItV × List ItV) (fun z => [(0, v), (2, .int .i64 (m : Int)), (4, gv), (10, .int .i64 (z.2.1.length : Int)), (11, .int .i64 (z.2.2.1.length : Int))]) (fun z => OwnM 33 cellsI v (z.1 ++ z.2.1 ++ z.2.2.1 ++ z.2.2.2) :: F)
    (fun z => 0 < z.2.1.length ∧ 0 < z.2.2.1.length ∧ z.1.length + z.2.1.length = m ∧ z.1.length + z.2.1.length + z.2.2.1.length + z.2.2.2.length ≤ 4000000 ∧ z.1 ++ z.2.2.1 ++ z.2.1 ++ z.2.2.2 = P0 ++ Y0 ++ X0 ++ Q0) (fun z => z.2.1.length + z.2.2.1.length) (P0, X0, Y0, Q0) (h.keep [0, 2, 4, 10, 11]) ⟨hx0, hy0, hm.symm, by simp only; omega, rfl⟩ ?_
  clear h a w; intro z a w hz h
  obtain ⟨P1, X1, Y1, Q1⟩ := z
  obtain ⟨hx1, hy1, hm1, hl1, ht⟩ := hz
  simp only at hx1 hy1 hm1 hl1 ht h
  as_aux_lemma =>
   refine c_seq ?_
   refine c_seq (c_region ?_)
   refine wv h (r_move h rfl) rfl ?_
   clear h a w; intro a w h
   refine wv h (r_move h rfl) rfl ?_
   clear h a w; intro a w h
   refine wv h (r_bin h rfl rfl (B.neq_int)) rfl ?_
   clear h a w; intro a w h
   refine wnil (c_then ?_)
   refine c_condP (p := X1.length ≠ Y1.length) h rfl (by simp; omega) (fun ht1 => ?_) (fun ht1 => ?_)
   ·
    refine c_skip ?_
    refine c_then ?_
    refine c_block ?_
    refine c_seq (c_region ?_)
    refine wv h (r_move h rfl) rfl ?_
    clear h a w; intro a w h
    refine wv h (r_move h rfl) rfl ?_
    clear h a w; intro a w h
    refine wv h (r_bin h rfl rfl (B.gtr_int)) rfl ?_
    clear h a w; intro a w h
    refine wnil (c_then ?_)
    refine c_condP (p := Y1.length < X1.length) h rfl (by simp) (fun ht2 => ?_) (fun ht2 => ?_)
    ·
     obtain ⟨U, hU⟩ : ∃ U, U = X1.take Y1.length := ⟨_, rfl⟩
     obtain ⟨V, hV⟩ : ∃ V, V = X1.drop Y1.length := ⟨_, rfl⟩
     have hUV : X1 = U ++ V := by rw [hU, hV, List.take_append_drop]
     have hUl : U.length = Y1.length := by rw [hU, List.length_take]; omega
     have hXl : X1.length = U.length + V.length := by rw [hUV, List.length_append]
     have hsw := swpN_all P1 U V Y1 Q1 hUl
     rw [hUl, show P1.length + Y1.length + V.length = m by omega, List.append_assoc P1 U V, ← hUV] at hsw
     as_aux_lemma =>
      refine c_seq (c_region ?_)
      refine wv h (r_move h rfl) rfl ?_
      clear h a w; intro a w h
      refine wv h (r_move h rfl) rfl ?_
      clear h a w; intro a w h
      refine wv h (r_move h rfl) rfl ?_
      clear h a w; intro a w h
      refine wv h (r_bin h rfl rfl (B.sub_i64 (by omega) (by omega))) rfl ?_
      clear h a w; intro a w h
      rw [show ((m : Int) - (X1.length : Int)) = (P1.length : Int) by omega] at h
      refine wv h (r_move h rfl) rfl ?_
      clear h a w; intro a w h
      refine wv h (r_move h rfl) rfl ?_
      clear h a w; intro a w h
      refine wv h (r_move h rfl) rfl ?_
      clear h a w; intro a w h
      refine wl rfl (op_call h rfl K.go_slices_swapRangeCmpFunc_pack_item (sl_swapRange s _ v gv (P1 ++ X1 ++ Y1 ++ Q1) P1.length m Y1.length _ (by omega) (by simp only [List.length_append]; omega) (by simp only [List.length_append]; omega) h.2) rfl ?_)
      clear h a w; intro z31 a w hz31 h
      rw [hsw] at h
      refine wnil (c_then ?_)
      refine c_region ?_
      refine wv h (r_move h rfl) rfl ?_
      clear h a w; intro a w h
      refine wv h (r_move h rfl) rfl ?_
      clear h a w; intro a w h
      refine wv h (r_bin h rfl rfl (B.sub_i64 (by omega) (by omega))) rfl ?_
      clear h a w; intro a w h
      rw [show ((X1.length : Int) - (Y1.length : Int)) = (V.length : Int) by omega] at h
      refine wv h (r_assign h rfl) rfl ?_
      clear h a w; intro a w h
      refine wnil ?_
      refine b_normal ?_
      refine ⟨(P1 ++ Y1, V, U, Q1), ?_, ⟨by simp only; omega, by simp only; omega, by simp only [List.length_append]; omega, by simp only [List.length_append]; omega, ?_⟩, by simp only; omega⟩
      · have q := h.keep [0, 2, 4, 10, 11]
        show St 58 s a w [(0, v), (2, _), (4, gv), (10, .int .i64 (V.length : Int)), (11, .int .i64 (U.length : Int))] _
        rw [hUl]; exact q
      · simp only; rw [← ht, hUV]; simp
    ·
     obtain ⟨V, hV⟩ : ∃ V, V = Y1.take (Y1.length - X1.length) := ⟨_, rfl⟩
     obtain ⟨W, hW⟩ : ∃ W, W = Y1.drop (Y1.length - X1.length) := ⟨_, rfl⟩
     have hVW : Y1 = V ++ W := by rw [hV, hW, List.take_append_drop]
     have hWl : W.length = X1.length := by rw [hW, List.length_drop]; omega
     have hYl : Y1.length = V.length + W.length := by rw [hVW, List.length_append]
     have hsw := swpN_all P1 X1 V W Q1 hWl.symm
     rw [show P1.length + X1.length + V.length = m + V.length by omega, List.append_assoc (P1 ++ X1) V W, ← hVW] at hsw
     refine c_seq (c_region ?_)
     refine wv h (r_move h rfl) rfl ?_
     clear h a w; intro a w h
     refine wv h (r_move h rfl) rfl ?_
     clear h a w; intro a w h
     refine wv h (r_move h rfl) rfl ?_
     clear h a w; intro a w h
     refine wv h (r_bin h rfl rfl (B.sub_i64 (by omega) (by omega))) rfl ?_
     clear h a w; intro a w h
     rw [show ((m : Int) - (X1.length : Int)) = (P1.length : Int) by omega] at h
     refine wv h (r_move h rfl) rfl ?_
     clear h a w; intro a w h
     refine wv h (r_move h rfl) rfl ?_
     clear h a w; intro a w h
     refine wv h (r_bin h rfl rfl (B.add_i64 (by omega) (by omega))) rfl ?_
     clear h a w; intro a w h
     refine wv h (r_move h rfl) rfl ?_
     clear h a w; intro a w h
     refine wv h (r_bin h rfl rfl (B.sub_i64 (by omega) (by omega))) rfl ?_
     clear h a w; intro a w h
     rw [show ((m : Int) + (Y1.length : Int) - (X1.length : Int)) = ((m + V.length : Nat) : Int) by omega] at h
     refine wv h (r_move h rfl) rfl ?_
     clear h a w; intro a w h
     refine wv h (r_move h rfl) rfl ?_
     clear h a w; intro a w h
     refine wl rfl (op_call h rfl K.go_slices_swapRangeCmpFunc_pack_item (sl_swapRange s _ v gv (P1 ++ X1 ++ Y1 ++ Q1) P1.length (m + V.length) X1.length _ (by omega) (by simp only [List.length_append]; omega) (by simp only [List.length_append]; omega) h.2) rfl ?_)
     clear h a w; intro z46 a w hz46 h
     rw [hsw] at h
     refine wnil (c_then ?_)
     refine c_region ?_
     refine wv h (r_move h rfl) rfl ?_
     clear h a w; intro a w h
     refine wv h (r_move h rfl) rfl ?_
     clear h a w; intro a w h
     refine wv h (r_bin h rfl rfl (B.sub_i64 (by omega) (by omega))) rfl ?_
     clear h a w; intro a w h
     rw [show ((Y1.length : Int) - (X1.length : Int)) = (V.length : Int) by omega] at h
     refine wv h (r_assign h rfl) rfl ?_
     clear h a w; intro a w h
     refine wnil ?_
     refine b_normal ?_
     refine ⟨(P1, W, V, X1 ++ Q1), ?_, ⟨by simp only; omega, by simp only; omega, by simp only; omega, by simp only [List.length_append]; omega, ?_⟩, by simp only; omega⟩
     · have q := h.keep [0, 2, 4, 10, 11]
       show St 58 s a w [(0, v), (2, _), (4, gv), (10, .int .i64 (W.length : Int)), (11, .int .i64 (V.length : Int))] (OwnM 33 cellsI v (P1 ++ W ++ V ++ (X1 ++ Q1)) :: F)
       rw [hWl, ← List.append_assoc]; exact q
     · simp only; rw [← ht, hVW]; simp
   ·
    have hxy : X1.length = Y1.length := by omega
    have hsw := swpN_all P1 X1 [] Y1 Q1 hxy
    rw [show P1.length + X1.length + ([] : List ItV).length = m by simp; omega, List.append_nil, List.append_nil, ht] at hsw
    refine c_exit ?_
    refine e_then ?_
    refine e_then ?_
    refine e_here ?_
    refine c_then ?_
    refine c_region ?_
    refine wv h (r_move h rfl) rfl ?_
    clear h a w; intro a w h
    refine wv h (r_move h rfl) rfl ?_
    clear h a w; intro a w h
    refine wv h (r_move h rfl) rfl ?_
    clear h a w; intro a w h
    refine wv h (r_bin h rfl rfl (B.sub_i64 (by omega) (by omega))) rfl ?_
    clear h a w; intro a w h
    rw [show ((m : Int) - (X1.length : Int)) = (P1.length : Int) by omega] at h
    refine wv h (r_move h rfl) rfl ?_
    clear h a w; intro a w h
    refine wv h (r_move h rfl) rfl ?_
    clear h a w; intro a w h
    refine wv h (r_move h rfl) rfl ?_
    clear h a w; intro a w h
    refine wl rfl (op_call h rfl K.go_slices_swapRangeCmpFunc_pack_item (sl_swapRange s _ v gv (P1 ++ X1 ++ Y1 ++ Q1) P1.length m X1.length _ (by omega) (by simp only [List.length_append]; omega) (by simp only [List.length_append]; omega) h.2) rfl ?_)
    clear h a w; intro z57 a w hz57 h
    rw [hsw] at h
    refine wnil ?_
    exact end0 h rfl ⟨(), rfl, h.2, trivial⟩
end Go.Proofs.K

/- Stable sorting of items: by putting in. -/
namespace Go.Proofs.K
open Go.Sl
attribute [local irreducible] Go.Sl.Own Go.Sl.Blk Go.Sl.Sep Go.Sl.Ex Go.Sl.Fact
theorem sl_insertionSort (s w : World) (v : Value) (P0 M Q0 : List ItV) (a0 b0 : Nat) (F : List HItem) (ha : a0 = P0.length) (hb : b0 = P0.length + M.length) (hl : (P0 ++ M ++ Q0).length ≤ 4000000) (hs : Sat s w (OwnM 33 cellsI v (P0 ++ M ++ Q0) :: F)) :
    Calls P n_slices_insertionSortCmpFunc_pack_item #[v, .int .i64 (a0 : Int), .int .i64 (b0 : Int), cmpV] w (Ret s (fun _ : Unit => .tuple #[]) (fun _ => OwnM 33 cellsI v (P0 ++ isort M ++ Q0) :: F) (fun _ => True)) := by
  simp only [List.length_append] at hl
  refine enter K.fn_slices_insertionSortCmpFunc_pack_item rfl K.nt_slices_insertionSortCmpFunc_pack_item rfl hs ?_
  clear hs w; intro a w h
  unfold cmpV at h
  refine c_seq (c_region ?_)
  refine wv h (r_move h rfl) rfl ?_
  clear h a w; intro a w h
  refine wv h (r_bin h rfl rfl (B.add_i64 (by omega) (by omega))) rfl ?_
  clear h a w; intro a w h
  refine wv h (r_assign h rfl) rfl ?_
  clear h a w; intro a w h
  refine wnil (c_then ?_)
  refine c_block ?_
  refine c_loop (X := Nat) (fun k => [(0, v), (1, .int .i64 (a0 : Int)), (2, .int .i64 (b0 : Int)), (3, .func (.func n_pack_sorted_1) #[] #[]), (8, .int .i64 ((P0.length + k : Nat) : Int))]) (fun k => OwnM 33 cellsI v (P0 ++ (isort (M.take k) ++ M.drop k) ++ Q0) :: F)
    (fun k => 1 ≤ k) (fun k => M.length - k) 1 (by
      have e : isort (M.take 1) ++ M.drop 1 = M := by cases M with
        | nil => rfl
        | cons x l => rfl
      rw [e]
      have q := h.keep [0, 1, 2, 3, 8]
      rw [show ((a0 : Int) + 1) = ((P0.length + 1 : Nat) : Int) by omega] at q
      exact q) (Nat.le_refl _) ?_
  clear h a w; intro k a w hk h
  as_aux_lemma =>
   refine c_seq ?_
   refine c_seq (c_region ?_)
   refine wv h (r_move h rfl) rfl ?_
   clear h a w; intro a w h
   refine wv h (r_move h rfl) rfl ?_
   clear h a w; intro a w h
   refine wv h (r_bin h rfl rfl (B.lss_int)) rfl ?_
   clear h a w; intro a w h
   refine wnil (c_then ?_)
   refine c_condP (p := k < M.length) h rfl (by simp; omega) (fun ht1 => ?_) (fun ht1 => ?_)
   ·
    obtain ⟨x, hx⟩ : ∃ x, M[k]? = some x := ⟨_, List.getElem?_eq_getElem ht1⟩
    have dM : M.drop k = x :: M.drop (k + 1) := by rw [List.drop_eq_getElem_cons ht1]; congr 1; exact (List.getElem?_eq_some_iff.1 hx).2
    have tM : M.take (k + 1) = M.take k ++ [x] := by rw [List.take_add_one, hx]; rfl
    obtain ⟨S, hS⟩ : ∃ S, S = isort (M.take k) := ⟨_, rfl⟩
    have hSl : S.length = k := by rw [hS, isort_len, List.length_take]; omega
    have e0 : P0 ++ (isort (M.take k) ++ M.drop k) ++ Q0 = mvL P0 S (M.drop (k + 1) ++ Q0) x k := by
      have tS : S.take k = S := List.take_of_length_le (by omega)
      have dS : S.drop k = [] := List.drop_eq_nil_of_le (by omega)
      rw [mvL, ← hS, dM, tS, dS]; simp
    rw [e0] at h
    have hRl : (M.drop (k + 1) ++ Q0).length + k + 1 = M.length + Q0.length := by simp; omega
    obtain ⟨R, hR⟩ : ∃ R, R = M.drop (k + 1) ++ Q0 := ⟨_, rfl⟩
    rw [← hR] at h hRl
    refine c_skip ?_
    refine c_then ?_
    refine c_seq ?_
    refine c_block ?_
    refine c_seq (c_region ?_)
    refine wv h (r_move h rfl) rfl ?_
    clear h a w; intro a w h
    refine wv h (r_assign h rfl) rfl ?_
    clear h a w; intro a w h
    refine wnil (c_then ?_)
    refine c_block ?_
    refine c_loop (X := Nat) (fun q => [(0, v), (1, .int .i64 (a0 : Int)), (2, .int .i64 (b0 : Int)), (3, .func (.func n_pack_sorted_1) #[] #[]), (8, .int .i64 ((P0.length + k : Nat) : Int)), (9, .int .i64 ((P0.length + q : Nat) : Int))]) (fun q => OwnM 33 cellsI v (mvL P0 S R x q) :: F)
      (fun q => q ≤ k ∧ ∀ y, S[q]? = some y → lt x y = true) (fun q => q) k (h.keep [0, 1, 2, 3, 8, 9]) ⟨Nat.le_refl _, fun y hy => by rw [List.getElem?_eq_none (by omega)] at hy; cases hy⟩ ?_
    clear h a w; intro q a w hq h
    obtain ⟨hq1, hq2⟩ := hq
    have hcl := mvL_len P0 S R x q
    have hgx := mvL_get P0 S R x q (by omega)
    obtain ⟨cur, hcur⟩ : ∃ cur, cur = mvL P0 S R x q := ⟨_, rfl⟩
    rw [← hcur] at h hcl hgx
    have hgt : decide (((P0.length + q : Nat) : Int) > (a0 : Int)) = decide (0 < q) := decide_eq_decide.2 (by omega)
    obtain ⟨z, hz⟩ : ∃ z, z = S.getD (q - 1) x := ⟨_, rfl⟩
    have hz1 : 0 < q → S[q - 1]? = some z := fun h0 => by rw [hz, List.getD_eq_getElem?_getD, List.getElem?_eq_getElem (by omega)]; rfl
    have hz2 : 0 < q → cur[P0.length + (q - 1)]? = some z := fun h0 => by
      obtain ⟨q', rfl⟩ : ∃ q', q = q' + 1 := ⟨q - 1, by omega⟩
      rw [hcur]; exact mvL_prev P0 S R x z q' (by have := hz1 h0; simpa using this)
    have hsp : Shp v cur.length := Sat.shp h.2 (by omega)
    as_aux_lemma =>
     refine c_seq ?_
     refine c_seq (c_draw K.mixed (by kernel_rfl) h ?_)
     clear h a w; intro a hE
     refine qv hE (fun w hw => r_move ⟨hE, hw⟩ rfl) rfl ?_
     clear hE a; intro a hE
     refine qv hE (fun w hw => r_move ⟨hE, hw⟩ rfl) rfl ?_
     clear hE a; intro a hE
     refine qv hE (fun w hw => r_bin ⟨hE, hw⟩ rfl rfl (B.gtr_int)) rfl ?_
     clear hE a; intro a hE
     rw [hgt] at hE
     refine qv hE (fun w hw => r_move ⟨hE, hw⟩ rfl) rfl ?_
     clear hE a; intro a hE
     refine qvG hE (by exact .t rfl) (fun hg w hw => by (have hg2 := hg; (simp only [Bool.and_eq_true, Bool.or_eq_true, Bool.not_eq_true', decide_eq_true_eq, decide_eq_false_iff_not] at hg2)); exact r_move ⟨hE, hw⟩ rfl) rfl ?_
     clear hE a; intro a hE
     refine qvG hE (by exact .t rfl) (fun hg w hw => by (simp only [↓gval_on hg, ↓gval_and hg] at hE); (have hg2 := hg; (simp only [Bool.and_eq_true, Bool.or_eq_true, Bool.not_eq_true', decide_eq_true_eq, decide_eq_false_iff_not] at hg2)); exact r_move ⟨hE, hw⟩ rfl) rfl ?_
     clear hE a; intro a hE
     refine qvG hE (by exact .t rfl) (fun hg w hw => by (simp only [↓gval_on hg, ↓gval_and hg] at hE); (have hg2 := hg; (simp only [Bool.and_eq_true, Bool.or_eq_true, Bool.not_eq_true', decide_eq_true_eq, decide_eq_false_iff_not] at hg2)); exact r_move ⟨hE, hw⟩ rfl) rfl ?_
     clear hE a; intro a hE
     refine qvG hE (by exact .t rfl) (fun hg w hw => by (simp only [↓gval_on hg, ↓gval_and hg] at hE); exact r_elPs ⟨hE, hw⟩ rfl rfl K.u_S_pack_item K.sz_pack_item hsp (P0.length + q) rfl (by omega)) rfl ?_
     clear hE a; intro a hE
     refine qvG hE (by exact .t rfl) (fun hg w hw => by (simp only [↓gval_on hg, ↓gval_and hg] at hE); exact r_elM (cells := cellsI) ⟨hE, hw⟩ rfl K.u_pack_item rfl K.sz_pack_item rfl (Views.own 0 rfl) hgx) rfl ?_
     clear hE a; intro a hE
     refine qvG hE (by exact .t rfl) (fun hg w hw => by (simp only [↓gval_on hg, ↓gval_and hg] at hE); (have hg2 := hg; (simp only [Bool.and_eq_true, Bool.or_eq_true, Bool.not_eq_true', decide_eq_true_eq, decide_eq_false_iff_not] at hg2)); exact r_move ⟨hE, hw⟩ rfl) rfl ?_
     clear hE a; intro a hE
     refine qvG hE (by exact .t rfl) (fun hg w hw => by (simp only [↓gval_on hg, ↓gval_and hg] at hE); (have hg2 := hg; (simp only [Bool.and_eq_true, Bool.or_eq_true, Bool.not_eq_true', decide_eq_true_eq, decide_eq_false_iff_not] at hg2)); exact r_move ⟨hE, hw⟩ rfl) rfl ?_
     clear hE a; intro a hE
     refine qvG hE (by exact .t rfl) (fun hg w hw => by (simp only [↓gval_on hg, ↓gval_and hg] at hE); (have hg2 := hg; (simp only [Bool.and_eq_true, Bool.or_eq_true, Bool.not_eq_true', decide_eq_true_eq, decide_eq_false_iff_not] at hg2)); exact r_bin ⟨hE, hw⟩ rfl rfl (B.sub_i64 (by omega) (by omega))) rfl ?_
     clear hE a; intro a hE
     refine qvG hE (by exact .t rfl) (fun hg w hw => by have h0 := of_decide_eq_true hg; (simp only [↓gval_on hg, ↓gval_and hg] at hE); exact r_elPs ⟨hE, hw⟩ rfl rfl K.u_S_pack_item K.sz_pack_item hsp (P0.length + (q - 1)) (by omega) (by omega)) rfl ?_
     clear hE a; intro a hE
     refine qvG hE (by exact .t rfl) (fun hg w hw => by have h0 := of_decide_eq_true hg; (simp only [↓gval_on hg, ↓gval_and hg] at hE); exact r_elM (cells := cellsI) ⟨hE, hw⟩ rfl K.u_pack_item rfl K.sz_pack_item rfl (Views.own 0 rfl) (hz2 h0)) rfl ?_
     clear hE a; intro a hE
     refine q_callVG hE (by exact .t rfl) (fs := #[]) (cs := #[]) K.go_pack_sorted_1 (fun hg => by (simp only [↓gval_on hg, ↓gval_and hg] at hE); exact ⟨_, [itV x, itV z], hE, rfl, rfl, fun w hw => srt_call s w x z _ hw⟩) rfl ?_
     clear hE a; intro a hE
     refine qvG hE (by exact .t rfl) (fun hg w hw => by (simp only [↓gval_on hg, ↓gval_and hg] at hE); (have hg2 := hg; (simp only [Bool.and_eq_true, Bool.or_eq_true, Bool.not_eq_true', decide_eq_true_eq, decide_eq_false_iff_not] at hg2)); exact r_bin ⟨hE, hw⟩ rfl rfl (B.lss_int)) rfl ?_
     clear hE a; intro a hE
     rw [cmp_lt] at hE
     refine qv hE (fun w hw => r_pickA ⟨hE, hw⟩ rfl rfl rfl) rfl ?_
     clear hE a; intro a hE
     refine qnil hE ?_
     clear hE a; intro a w h
     refine c_then ?_
     refine c_condP (p := 0 < q ∧ lt x z = true) h rfl (by simp) (fun ht2 => ?_) (fun ht2 => ?_)
     ·
      obtain ⟨q', rfl⟩ : ∃ q', q = q' + 1 := ⟨q - 1, by omega⟩
      have hzq : S[q']? = some z := by have := hz1 (by omega); simpa using this
      have hzc : cur[P0.length + q']? = some z := by have := hz2 (by omega); simpa using this
      refine c_skip ?_
      refine c_then ?_
      refine c_seq ?_
      refine c_block ?_
      refine c_drawn 18 K.mixed rfl h ?_
      clear h a w; intro a w h
      have hD : Paid s w [] := Paid.nil
      refine d_take0 (listed' := #[true, false, false, false, false, false, false, false, false, false, false, false, false, false, false, false, false, false]) h hD 0 (by as_aux_lemma => kernel_rfl) rfl (by as_aux_lemma => kernel_rfl) (by as_aux_lemma => kernel_rfl) (by as_aux_lemma => kernel_rfl) (fun _ _ _ _ hh => hh) (fun w h => by exact r_move h rfl) rfl ?_
      clear hD h a w; intro a w h hD
      refine d_take0 (listed' := #[true, true, false, false, false, false, false, false, false, false, false, false, false, false, false, false, false, false]) h hD 1 (by as_aux_lemma => kernel_rfl) rfl (by as_aux_lemma => kernel_rfl) (by as_aux_lemma => kernel_rfl) (by as_aux_lemma => kernel_rfl) (fun _ _ _ _ hh => hh) (fun w h => by exact r_move h rfl) rfl ?_
      clear hD h a w; intro a w h hD
      refine d_take0 (listed' := #[true, true, true, false, false, false, false, false, false, false, false, false, false, false, false, false, false, false]) h hD 2 (by as_aux_lemma => kernel_rfl) rfl (by as_aux_lemma => kernel_rfl) (by as_aux_lemma => kernel_rfl) (by as_aux_lemma => kernel_rfl) (fun _ _ _ _ hh => hh) (fun w h => by exact r_move h rfl) rfl ?_
      clear hD h a w; intro a w h hD
      refine d_take0 (listed' := #[true, true, true, true, false, false, false, false, false, false, false, false, false, false, false, false, false, false]) h hD 3 (by as_aux_lemma => kernel_rfl) rfl (by as_aux_lemma => kernel_rfl) (by as_aux_lemma => kernel_rfl) (by as_aux_lemma => kernel_rfl) (fun _ _ _ _ hh => hh) (fun w h => by exact r_move h rfl) rfl ?_
      clear hD h a w; intro a w h hD
      refine d_take0 (listed' := #[true, true, true, true, true, false, false, false, false, false, false, false, false, false, false, false, false, false]) h hD 4 (by as_aux_lemma => kernel_rfl) rfl (by as_aux_lemma => kernel_rfl) (by as_aux_lemma => kernel_rfl) (by as_aux_lemma => kernel_rfl) (fun _ _ _ _ hh => hh) (fun w h => by exact r_bin h rfl rfl (B.sub_i64 (by omega) (by omega))) rfl ?_
      clear hD h a w; intro a w h hD
      refine d_take0 (listed' := #[true, true, true, true, true, true, false, false, false, false, false, false, false, false, false, false, false, false]) h hD 5 (by as_aux_lemma => kernel_rfl) rfl (by as_aux_lemma => kernel_rfl) (by as_aux_lemma => kernel_rfl) (by as_aux_lemma => kernel_rfl) (fun _ _ _ _ hh => hh) (fun w h => by exact r_move h rfl) rfl ?_
      clear hD h a w; intro a w h hD
      refine d_take0 (listed' := #[true, true, true, true, true, true, true, false, false, false, false, false, false, false, false, false, false, false]) h hD 6 (by as_aux_lemma => kernel_rfl) rfl (by as_aux_lemma => kernel_rfl) (by as_aux_lemma => kernel_rfl) (by as_aux_lemma => kernel_rfl) (fun _ _ _ _ hh => hh) (fun w h => by exact r_move h rfl) rfl ?_
      clear hD h a w; intro a w h hD
      refine d_take0 (listed' := #[true, true, true, true, true, true, true, true, false, false, false, false, false, false, false, false, false, false]) h hD 7 (by as_aux_lemma => kernel_rfl) rfl (by as_aux_lemma => kernel_rfl) (by as_aux_lemma => kernel_rfl) (by as_aux_lemma => kernel_rfl) (fun _ _ _ _ hh => hh) (fun w h => by exact r_bin h rfl rfl (B.sub_i64 (by omega) (by omega))) rfl ?_
      clear hD h a w; intro a w h hD
      refine d_take (listed' := #[true, true, true, true, true, true, true, true, true, false, false, false, false, false, false, false, false, false]) h hD 8 _ (by as_aux_lemma => kernel_rfl) rfl (by as_aux_lemma => kernel_rfl) (by as_aux_lemma => kernel_rfl) (by as_aux_lemma => kernel_rfl) (fun _ _ _ _ hh => hh) h.2 (fun w hw => by exact r_elPs ⟨h.1, hw⟩ rfl rfl K.u_S_pack_item K.sz_pack_item hsp (P0.length + q') (by omega) (by omega)) rfl ?_
      clear hD h a w; intro a w h hD
      refine d_take (listed' := #[true, true, true, true, true, true, true, true, true, true, false, false, false, false, false, false, false, false]) h hD 9 _ (by as_aux_lemma => kernel_rfl) rfl (by as_aux_lemma => kernel_rfl) (by as_aux_lemma => kernel_rfl) (by as_aux_lemma => kernel_rfl) (fun _ _ _ _ hh => hh) h.2 (fun w hw => by exact r_elM (cells := cellsI) ⟨h.1, hw⟩ rfl K.u_pack_item rfl K.sz_pack_item rfl (Views.own 0 rfl) hzc) rfl ?_
      clear hD h a w; intro a w h hD
      refine d_take0 (listed' := #[true, true, true, true, true, true, true, true, true, true, true, false, false, false, false, false, false, false]) h hD 10 (by as_aux_lemma => kernel_rfl) rfl (by as_aux_lemma => kernel_rfl) (by as_aux_lemma => kernel_rfl) (by as_aux_lemma => kernel_rfl) (fun _ _ _ _ hh => hh) (fun w h => by exact r_move h rfl) rfl ?_
      clear hD h a w; intro a w h hD
      refine d_take0 (listed' := #[true, true, true, true, true, true, true, true, true, true, true, true, false, false, false, false, false, false]) h hD 11 (by as_aux_lemma => kernel_rfl) rfl (by as_aux_lemma => kernel_rfl) (by as_aux_lemma => kernel_rfl) (by as_aux_lemma => kernel_rfl) (fun _ _ _ _ hh => hh) (fun w h => by exact r_move h rfl) rfl ?_
      clear hD h a w; intro a w h hD
      refine d_take (listed' := #[true, true, true, true, true, true, true, true, true, true, true, true, true, false, false, false, false, false]) h hD 12 (F) (by as_aux_lemma => kernel_rfl) rfl (by as_aux_lemma => kernel_rfl) (by as_aux_lemma => kernel_rfl) (by as_aux_lemma => kernel_rfl) (fun _ _ _ _ hh => hh) (by exact h.2.drop 1) (fun w hw => by exact r_elPs ⟨h.1, hw⟩ rfl rfl K.u_S_pack_item K.sz_pack_item hsp (P0.length + (q' + 1)) rfl (by omega)) rfl ?_
      clear hD h a w; intro a w h hD
      refine d_take (listed' := #[true, true, true, true, true, true, true, true, true, true, true, true, true, true, false, false, false, false]) h hD 13 _ (by as_aux_lemma => kernel_rfl) rfl (by as_aux_lemma => kernel_rfl) (by as_aux_lemma => kernel_rfl) (by as_aux_lemma => kernel_rfl) (fun _ _ _ _ hh => hh) h.2 (fun w hw => by exact r_elM (cells := cellsI) ⟨h.1, hw⟩ rfl K.u_pack_item rfl K.sz_pack_item rfl (Views.own 0 rfl) hgx) rfl ?_
      clear hD h a w; intro a w h hD
      refine d_take (listed' := #[true, true, true, true, true, true, true, true, true, true, true, true, true, true, true, false, false, false]) h hD 14 (F) (by as_aux_lemma => kernel_rfl) rfl (by as_aux_lemma => kernel_rfl) (by as_aux_lemma => kernel_rfl) (by as_aux_lemma => kernel_rfl) (fun _ _ _ _ hh => hh) (by exact h.2.drop 1) (fun w hw => by exact r_elPs ⟨h.1, hw⟩ rfl rfl K.u_S_pack_item K.sz_pack_item hsp (P0.length + (q' + 1)) rfl (by omega)) rfl ?_
      clear hD h a w; intro a w h hD
      refine d_only (listed' := #[true, true, true, true, true, true, true, true, true, true, true, true, true, true, true, true, false, false]) 15 [false, false, true, false, false] (by as_aux_lemma => kernel_rfl) rfl rfl (by as_aux_lemma => kernel_rfl) (by as_aux_lemma => kernel_rfl) ?_
      refine op_storeR h rfl rfl K.sz_pack_item 0 rfl (by omega) ?_
      clear hD h a w; intro a w h
      (simp only [List.set_cons_zero, List.set_cons_succ] at h)
      refine d_pay (Paid.cons (by exact h.2.drop 1) (Paid.nil)) (fun hD => ?_)
      refine d_take (listed' := #[true, true, true, true, true, true, true, true, true, true, true, true, true, true, true, true, true, false]) h hD 16 _ (by as_aux_lemma => kernel_rfl) rfl (by as_aux_lemma => kernel_rfl) (by as_aux_lemma => kernel_rfl) (by as_aux_lemma => kernel_rfl) (fun _ _ _ _ hh => hh) h.2 (fun w hw => by exact r_elPs ⟨h.1, hw⟩ rfl rfl K.u_S_pack_item K.sz_pack_item hsp (P0.length + q') (by omega) (by omega)) rfl ?_
      clear hD h a w; intro a w h hD
      refine d_only (listed' := #[true, true, true, true, true, true, true, true, true, true, true, true, true, true, true, true, true, true]) 17 [false, false] (by as_aux_lemma => kernel_rfl) rfl rfl (by as_aux_lemma => kernel_rfl) (by as_aux_lemma => kernel_rfl) ?_
      refine op_storeR h rfl rfl K.sz_pack_item 0 rfl (by (simp; omega)) ?_
      clear hD h a w; intro a w h
      (simp only [List.set_cons_zero, List.set_cons_succ] at h)
      refine d_pay (Paid.nil) (fun hD => ?_)
      refine d_done (by kernel_rfl) ?_
      clear hD
      refine b_normal ?_
      refine c_then ?_
      refine c_region ?_
      refine wv h (r_move h rfl) rfl ?_
      clear h a w; intro a w h
      refine wv h (r_bin h rfl rfl (B.sub_i64 (by omega) (by omega))) rfl ?_
      clear h a w; intro a w h
      rw [show (((P0.length + (q' + 1) : Nat) : Int) - 1) = ((P0.length + q' : Nat) : Int) by omega] at h
      refine wv h (r_assign h rfl) rfl ?_
      clear h a w; intro a w h
      refine wnil ?_
      have e := mvL_back P0 S R x z q' hzq
      rw [hcur] at h
      rw [show P0.length + q' + 1 = P0.length + (q' + 1) by omega] at e
      rw [e] at h
      exact ⟨q', h.keep [0, 1, 2, 3, 8, 9], ⟨by omega, fun y hy => by rw [hzq] at hy; cases hy; exact ht2.2⟩, by omega⟩
     ·
      have hfin := ins_step (T := M.take k) (x := x) (q := q) hS (by omega) (fun y h0 hy => by
          rw [hz1 h0] at hy; cases hy
          cases hh : lt x z with
          | false => rfl
          | true => exact absurd ⟨h0, hh⟩ ht2) hq2
      rw [hcur, mvL, hfin, ← tM, hR] at h
      refine c_exit ?_
      refine e_then ?_
      refine e_then ?_
      refine e_here ?_
      refine b_normal ?_
      refine c_then ?_
      refine c_region ?_
      refine wv h (r_move h rfl) rfl ?_
      clear h a w; intro a w h
      refine wv h (r_bin h rfl rfl (B.add_i64 (by omega) (by omega))) rfl ?_
      clear h a w; intro a w h
      refine wv h (r_assign h rfl) rfl ?_
      clear h a w; intro a w h
      refine wnil ?_
      rw [show P0 ++ isort (M.take (k + 1)) ++ (M.drop (k + 1) ++ Q0) = P0 ++ (isort (M.take (k + 1)) ++ M.drop (k + 1)) ++ Q0 by simp] at h
      exact ⟨k + 1, h.keep [0, 1, 2, 3, 8], by omega, by omega⟩
   ·
    refine c_exit ?_
    refine e_then ?_
    refine e_then ?_
    refine e_here ?_
    have e : isort (M.take k) ++ M.drop k = isort M := by rw [List.take_of_length_le (by omega), List.drop_eq_nil_of_le (by omega), List.append_nil]
    rw [e] at h
    exact end0 h rfl ⟨(), rfl, h.2, trivial⟩
end Go.Proofs.K

/- A map of keys (arrays of bytes) to true, as an item. No statement is proved here. -/
namespace Go.Sl

def keyV {N : Nat} (k : BA N) : Value := .agg ⟨cellsA k⟩
def entries {N : Nat} (l : List (BA N)) : Array MapEntry := (l.zipIdx.map fun p => { key := keyV p.1, val := .bool true, born := p.2 }).toArray
/-- block b is a map that bears these keys -/
def KSet {N : Nat} (b : Nat) (l : List (BA N)) : HItem := Blk b (.map (entries l) l.length)

theorem entries_snoc {N : Nat} (l : List (BA N)) (k : BA N) : entries (l ++ [k]) = (entries l).push { key := keyV k, val := .bool true, born := l.length } := by
  apply Array.ext'
  simp [entries, List.zipIdx_append]

section
variable {P : Program} {n : Nat} {s w : World} {a : Act} {E : List (Nat × Value)} {L : List HItem} {Q : Exit → Act → World → Prop} {next : Act → World → Prop}
variable {d : Nat} {dst : Option Nat} {ty : TypeId} {pos : String} {aft : Array Edge} {g : Option (Nat × Bool)}

theorem run_forIn_unit (F : Nat → PUnit → Sem (ForInStep PUnit)) (w : World) : ∀ (m i : Nat), (∀ j, i ≤ j → j < i + m → (F j PUnit.unit).run P w = .ok (.yield PUnit.unit) w) → (forIn (List.range' i m) PUnit.unit F).run P w = .ok PUnit.unit w := by
  intro m
  induction m with
  | zero => intro i _; simp
  | succ m ih =>
    intro i h
    rw [List.range'_succ, List.forIn_cons]
    simp only [Sem.run_bind, h i (Nat.le_refl _) (by omega), Result.andThen_ok]
    exact ih (i + 1) (fun j h1 h2 => h j (by omega) (by omega))

theorem run_checkKey_arr {t el : TypeId} {N by_ : Nat} {k : IntKind} (hu : P.underlying t = some (.array N el)) (he : P.underlying el = some (.int k)) (hs : tsz P el = some (1, by_)) (cs : Array Value) (hc : cs.size = N) (em : Bool) (m : Nat) (w : World) :
    (Instr.checkKey em (m + 2) t (.agg cs)).run P w = .ok () w := by
  have part1 : ∀ (i : Nat), i < N → ∃ v, (part el cs (i * 1)).run P w = .ok v w := by
    intro i hi
    refine ⟨cs[i], ?_⟩
    simp [part, run_isAgg he, TypeDesc.flat, hc, hi]
  have one : ∀ v, (Instr.checkKey em (m + 1) el v).run P w = .ok () w := by
    intro v
    rw [Instr.checkKey]
    simp only [Sem.run_bind, run_underlying he, Result.andThen_ok, Sem.run_pure]
  rw [Instr.checkKey]
  simp only [Sem.run_bind, run_underlying hu, Result.andThen_ok]
  simp only [Std.Legacy.Range.forIn_eq_forIn_range', Std.Legacy.Range.size]
  rw [run_forIn_unit _ w _ _ (fun j _ h2 => ?_)]
  · rfl
  · obtain ⟨v, hv⟩ := part1 j (by omega)
    simp only [Sem.run_bind, run_sizeOf hs, Result.andThen_ok, hv, one, Sem.run_pure]

theorem run_findAsking {t el : TypeId} {N by_ : Nat} (hu : P.underlying t = some (.array N el)) (he : P.underlying el = some (.int .u8)) (hs : tsz P el = some (1, by_)) (k : BA N) (w : World) :
    ∀ (l : List (BA N)) (i j : Nat), ∃ r, (Instr.findAsking t (keyV k) (l.zipIdx i |>.map fun p => { key := keyV p.1, val := .bool true, born := p.2 }) j).run P w = .ok r w ∧ (k ∉ l → r = none) ∧ (k ∈ l → ∃ q, r = some (q, .bool true)) := by
  intro l
  induction l with
  | nil => intro i j; exact ⟨none, by simp [Instr.findAsking], fun _ => rfl, fun h => by simp at h⟩
  | cons x l ih =>
    intro i j
    have heq := equal_arr8 hu he hs k.len x.len w
    by_cases e : k = x
    · subst e
      refine ⟨some (j, .bool true), ?_, fun h => by simp at h, fun _ => ⟨j, rfl⟩⟩
      simp only [List.zipIdx_cons, List.map_cons, Instr.findAsking, Sem.run_bind]
      have : (Op.equal t (keyV k) (keyV k)).run P w = .ok true w := by rw [show keyV k = .agg (arr8 k.val) from rfl, heq]; simp
      rw [this]; rfl
    · obtain ⟨r, h1, h2, h3⟩ := ih (i + 1) (j + 1)
      refine ⟨r, ?_, fun h => h2 (fun hh => h (by simp [hh])), fun h => h3 (by simpa [e] using h)⟩
      simp only [List.zipIdx_cons, List.map_cons, Instr.findAsking, Sem.run_bind]
      have : (Op.equal t (keyV k) (keyV x)).run P w = .ok false w := by
        rw [show keyV k = .agg (arr8 k.val) from rfl, show keyV x = .agg (arr8 x.val) from rfl, heq]
        have : k.val ≠ x.val := fun hh => e (BA.ext' hh)
        simp [this]
      rw [this]
      exact h1

theorem run_findKey {t el : TypeId} {N by_ : Nat} (hu : P.underlying t = some (.array N el)) (he : P.underlying el = some (.int .u8)) (hs : tsz P el = some (1, by_)) (k : BA N) (l : List (BA N)) (w : World) :
    ∃ r, (Instr.findKey t (keyV k) (entries l).toList).run P w = .ok r w ∧ (k ∉ l → r = none) ∧ (k ∈ l → ∃ q, r = some (q, .bool true)) := by
  cases l with
  | nil => exact ⟨none, by simp [Instr.findKey, Sem.run_bind, run_underlying hu, entries, Instr.findNow], fun _ => rfl, fun h => by simp at h⟩
  | cons x l =>
    obtain ⟨r, h1, h2⟩ := run_findAsking hu he hs k w (x :: l) 0 0
    refine ⟨r, ?_, h2⟩
    have : (entries (x :: l)).toList = ((x :: l).zipIdx 0 |>.map fun p => { key := keyV p.1, val := .bool true, born := p.2 }) := by simp [entries]
    rw [this]
    have hn : Instr.findNow (.array N el) (keyV k) ((x :: l).zipIdx 0 |>.map fun p => ({ key := keyV p.1, val := .bool true, born := p.2 } : MapEntry)) 0 = none := by
      simp [List.zipIdx_cons, Instr.findNow, Instr.sameNow]
    simp only [Instr.findKey, Sem.run_bind, run_underlying hu, Result.andThen_ok, hn]
    exact h1

theorem r_klook (h : St n s a w E L) {mt kt et el : TypeId} {x ix : Operand} {N by_ b : Nat} {k : BA N} {l : List (BA N)} (hx : ev E x = some (.map (some b))) (hi : ev E ix = some (.agg ⟨cellsA k⟩))
    (hm : P.underlying mt = some (.map kt et)) (hz : tzero P et = some (.bool false)) (hu : P.underlying kt = some (.array N el)) (he : P.underlying el = some (.int .u8)) (hs : tsz P el = some (1, by_)) (i : Nat) (hit : L[i]? = some (KSet b l)) :
    (execOp a.eval ⟨dst, .lookup mt x ix false, ty, pos, aft, g⟩).run P w = .ok (.value (.bool (decide (k ∈ l)))) w := by
  have hb := h.2.blk i hit
  obtain ⟨r, h1, h2, h3⟩ := run_findKey hu he hs k l w
  have hg : (getObj b).run P w = .ok (.map (entries l) l.length) w := by simp [getObj, Sem.run, hb]
  have hck := run_checkKey_arr hu he hs (⟨cellsA k⟩ : Array Value) (by show (cellsA k).length = N; rw [cellsA, bs_length, k.len]) (entries l).isEmpty 9998 w
  have hl : (Instr.lookup mt (.map (some b)) (.agg ⟨cellsA k⟩) false).run P w = .ok (.bool (decide (k ∈ l))) w := by
    by_cases hk : k ∈ l
    · obtain ⟨q, rfl⟩ := h3 hk
      simp only [Instr.lookup, Sem.run_bind, run_underlying hm, Result.andThen_ok, hg, Sem.run_pure, hck]
      rw [show (Value.agg ⟨cellsA k⟩) = keyV k from rfl, h1]
      simp [hk]
    · obtain rfl := h2 hk
      simp only [Instr.lookup, Sem.run_bind, run_underlying hm, Result.andThen_ok, hg, Sem.run_pure, hck]
      rw [show (Value.agg ⟨cellsA k⟩) = keyV k from rfl, h1]
      simp [hk, run_zeroValue hz]
  simp [execOp, h.1.ev hx, h.1.ev hi, hl]

theorem op_kput (h : St n s a w E L) {mt kt et el : TypeId} {x ix y : Operand} {N by_ b : Nat} {k : BA N} {l : List (BA N)} (hx : ev E x = some (.map (some b))) (hi : ev E ix = some (.agg ⟨cellsA k⟩)) (hy : ev E y = some (.bool true))
    (hm : P.underlying mt = some (.map kt et)) (hu : P.underlying kt = some (.array N el)) (he : P.underlying el = some (.int .u8)) (hs : tsz P el = some (1, by_)) (i : Nat) (hit : L[i]? = some (KSet b l)) (hk : k ∉ l)
    (K : ∀ a w, St n s a w E (L.set i (KSet b (l ++ [k]))) → next a w) :
    (Oper.mk none (.mapUpdate mt x ix y) ty pos aft g).wp P a w next Q := by
  have hb := h.2.blk i hit
  have hil : i < L.length := (List.getElem?_eq_some_iff.1 hit).1
  have hlt := heap_lt hb
  obtain ⟨r, h1, h2, _⟩ := run_findKey hu he hs k l w
  obtain rfl := h2 hk
  have hg : (getObj b).run P w = .ok (.map (entries l) l.length) w := by simp [getObj, Sem.run, hb]
  have hck := run_checkKey_arr hu he hs (⟨cellsA k⟩ : Array Value) (by show (cellsA k).length = N; rw [cellsA, bs_length, k.len]) false 9998 w
  have hset : (setObj b (.map ((entries l).push { key := keyV k, val := .bool true, born := l.length }) (l.length + 1))).run P w = .ok () { w with heap := w.heap.setIfInBounds b (.map ((entries l).push { key := keyV k, val := .bool true, born := l.length }) (l.length + 1)) } := by
    simp [setObj, Sem.run, hb]
  have hl : (Instr.mapUpdate mt (.map (some b)) (.agg ⟨cellsA k⟩) (.bool true)).run P w = .ok () { w with heap := w.heap.setIfInBounds b (.map ((entries l).push { key := keyV k, val := .bool true, born := l.length }) (l.length + 1)) } := by
    simp only [Instr.mapUpdate, Sem.run_bind, run_underlying hm, Result.andThen_ok, hg, hck]
    rw [show (Value.agg ⟨cellsA k⟩) = keyV k from rfl, h1]
    simpa using hset
  refine op_run_skip h (w' := { w with heap := w.heap.setIfInBounds b (.map ((entries l).push { key := keyV k, val := .bool true, born := l.length }) (l.length + 1)) }) (by simp [execOp, h.1.ev hx, h.1.ev hi, h.1.ev hy, hl]) ?_ K
  have hs2 := h.2.front i hit
  have := Sat.turn (o' := .map ((entries l).push { key := keyV k, val := .bool true, born := l.length }) (l.length + 1)) hs2
    (w' := { w with heap := w.heap.setIfInBounds b (.map ((entries l).push { key := keyV k, val := .bool true, born := l.length }) (l.length + 1)) }) rfl rfl rfl (by simp [hlt]) (fun k hk => by simp [Array.getElem?_setIfInBounds_ne (Ne.symm hk)])
  refine ⟨this.1, this.2.1, this.2.2.1, sepL_set hil ?_⟩
  rw [show (KSet b (l ++ [k])) = Blk b (.map ((entries l).push { key := keyV k, val := .bool true, born := l.length }) (l.length + 1)) from by unfold KSet; rw [entries_snoc]; simp]
  exact this.2.2.2

theorem r_klen (h : St n s a w E L) {mt kt et : TypeId} {x : Operand} {N b : Nat} {l : List (BA N)} (hx : ev E x = some (.map (some b))) (hm : P.underlying mt = some (.map kt et)) (i : Nat) (hit : L[i]? = some (KSet b l)) :
    (execOp a.eval ⟨dst, .call { callee := .builtin .len, args := #[x], argTypes := #[mt] }, ty, pos, aft, g⟩).run P w = .ok (.value (.int .i64 (l.length : Int))) w := by
  have hb := h.2.blk i hit
  have hg : (getObj b).run P w = .ok (.map (entries l) l.length) w := by simp [getObj, Sem.run, hb]
  have : (entries l).size = l.length := by simp [entries]
  simp [execOp, resolve, invoke, builtin, h.1.ev hx, Builtin.len_, run_underlying hm, goInt, hg, this]

theorem op_kmake (h : St n s a w E L) (N : Nat) {mt : TypeId} (hd : Nat.blt d n = true)
    (k : ∀ b a w, St n s a w ((d, .map (some b)) :: E) (KSet b ([] : List (BA N)) :: L) → next a w) : (Oper.mk (some d) (.makeMap mt none) ty pos aft g).wp P a w next Q := by
  refine op_run h (v := .map (some w.heap.size)) (w' := w.alloc (.map #[] 0)) ?_ hd (h.2.alloc _) (k _)
  simp [execOp, Instr.makeMap, run_newObj_alloc]
end
end Go.Sl
namespace Go.Sl
section
variable {P : Program} {n : Nat} {s w : World} {a : Act} {E : List (Nat × Value)} {L : List HItem} {Q : Exit → Act → World → Prop} {next : Act → World → Prop}
variable {d : Nat} {dst : Option Nat} {ty : TypeId} {pos : String} {aft : Array Edge} {g : Option (Nat × Bool)}

theorem zeroCells_one {z : Array Value} (hz : ∀ u ∈ z.toList, u.oneCell' = true) (n : Nat) : ∀ u ∈ (Builtin.zeroCells z n).toList, u.oneCell' = true := by
  intro u hu
  simp only [Builtin.zeroCells, Array.toList_map, List.mem_map, Array.toList_range, List.mem_range] at hu
  obtain ⟨i, hi, rfl⟩ := hu
  have h0 : 0 < z.size := by
    rcases Nat.eq_zero_or_pos z.size with e | e
    · rw [e] at hi; simp at hi
    · exact e
  have hlt := Nat.mod_lt i h0
  rw [getElem!_pos z _ hlt]
  exact hz _ (by simp)

theorem op_clear (h : St n s a w E L) {t el : TypeId} {x : Operand} {size N i : Nat} {v z : Value} {xs : List Value} (hx : ev E x = some (subV size v i N)) (hu : P.underlying t = some (.slice el)) (hz : tzero P el = some z)
    (hzs : z.cells.size = size) (hz1 : ∀ u ∈ z.cells.toList, u.oneCell' = true) (it : Nat) (hit : L[it]? = some (Own size v N xs)) (hi : i ≤ N)
    (k : ∀ zs a w, zs.length = (N - i) * size → St n s a w E (L.set it (Own size v N (xs.take (i * size) ++ zs))) → next a w) :
    (Oper.mk none (.call { callee := .builtin .clear, args := #[x], argTypes := #[t] }) ty pos aft g).wp P a w next Q := by
  have hil : it < L.length := (List.getElem?_eq_some_iff.1 hit).1
  have hF := h.2.front it hit
  obtain ⟨e1, e2, e3, D, ⟨hxl, hI⟩, hL⟩ := hF
  by_cases hiN : i = N
  · subst hiN
    have hr : (execOp a.eval (Oper.mk none (.call { callee := .builtin .clear, args := #[x], argTypes := #[t] }) ty pos aft g)).run P w = .ok (.value (.tuple #[])) w := by
      rcases hI with ⟨rfl, rfl⟩ | ⟨b, o, cap, cur, e, fr, rfl, hb, hfr, hnc, hcm, hcs, hxx⟩
      · simp [execOp, resolve, invoke, builtin, h.1.ev hx, Builtin.clear_, run_underlying hu, subV]
      · simp only [execOp, resolve, invoke, builtin, Array.map, h.1.ev hx, Sem.run_bind, Sem.run_pure, Result.andThen_ok]
        by_cases hci : cap = i
        · simp [execOp, resolve, invoke, builtin, h.1.ev hx, Builtin.clear_, run_underlying hu, subV, hci]
        · simp [execOp, resolve, invoke, builtin, h.1.ev hx, Builtin.clear_, run_underlying hu, subV, hci]
    have hx2 : xs.take (i * size) ++ [] = xs := by rw [List.append_nil, List.take_of_length_le (by omega)]
    refine op_run0 h hr h.2 (fun a w h => k [] a w (by simp) ?_)
    rw [hx2]
    have : L.set it (Own size v i xs) = L := by
      obtain ⟨hlt, hget⟩ := List.getElem?_eq_some_iff.1 hit
      rw [← hget, List.set_getElem_self]
    rw [this]; exact h
  · rcases hI with ⟨rfl, rfl⟩ | ⟨b, o, cap, cur, e, fr, rfl, hb, hfr, hnc, hcm, hcs, hxx⟩
    · omega
    · have hb' : w.heap[b]? = some (.cells cur e fr) := restr_le b _ hb
      have hci : cap ≠ i := by omega
      have hzl : (Builtin.zeroCells z.cells (N - i)).toList.length = (N - i) * size := by rw [Array.length_toList, size_zeroCells, hzs]
      have hle : i * size + (N - i) * size = N * size := by rw [← Nat.add_mul]; congr 1; omega
      have hle2 : N * size ≤ cap * size := Nat.mul_le_mul_right _ hnc
      obtain ⟨w', hr, g1, g2, g3, g4, g5⟩ := run_storeCells_gen P b e fr (o + i * size) (Builtin.zeroCells z.cells (N - i)).toList 0 cur w hb' (by rw [hzl]; omega) hfr (zeroCells_one hz1 _)
      have hrun : (execOp a.eval (Oper.mk none (.call { callee := .builtin .clear, args := #[x], argTypes := #[t] }) ty pos aft g)).run P w = .ok (.value (.tuple #[])) w' := by
        obtain ⟨q, hq⟩ : ∃ q, N - i = q + 1 := ⟨N - i - 1, by omega⟩
        rw [hq] at hr
        simp [execOp, resolve, invoke, builtin, h.1.ev hx, Builtin.clear_, run_underlying hu, subV, hci, Addr.add_none, hq, run_zeroValue hz, hr]
      have hD : D b = true := by
        simp only [restr] at hb
        split at hb
        · assumption
        · cases hb
      refine op_run0 h (w' := w') hrun (L' := L.set it (Own size (.slice (some ⟨b, o, none⟩) N cap) N (xs.take (i * size) ++ (Builtin.zeroCells z.cells (N - i)).toList))) ?_ (fun a w h => k _ a w hzl h)
      refine ⟨g1.trans e1, g2.trans e2, g3.trans e3, sepL_set hil ⟨D, ⟨?_, .inr ⟨b, o, cap, splice cur (o + i * size + 0) (Builtin.zeroCells z.cells (N - i)).toList, e, fr, rfl, ?_, ?_, hnc, hcm, ?_, ?_⟩⟩, ?_⟩⟩
      · rw [List.length_append, hzl, List.length_take, hxl, Nat.min_eq_left (by omega)]; exact hle
      · show restr D (hmOf w') b = _
        simp only [restr, hD, if_true]
        exact g4
      · rw [splice_size _ _ _ (by rw [hzl]; omega)]; exact hfr
      · rw [splice_size _ _ _ (by rw [hzl]; omega)]; exact hcs
      · have hcl : cur.toList.length = cur.size := Array.length_toList
        rw [← hxx]
        simp only [splice, Nat.add_zero, List.append_assoc]
        rw [List.drop_append_of_le_length (by simp; omega), List.drop_take, List.take_append, List.take_take, List.take_take]
        have m1 : min (N * size) (o + i * size - o) = i * size := by omega
        have m2 : min (i * size) (N * size) = i * size := by omega
        rw [m1, m2]
        congr 1
        rw [List.length_take, List.length_drop, hcl, List.take_append_of_le_length (by rw [hzl]; omega), List.take_of_length_le (by rw [hzl]; omega)]
      · refine sepL_mono _ ?_ hL
        intro q u hk
        simp only [restr] at hk ⊢
        split at hk
        · rename_i hk'
          rw [if_pos hk']
          have : q ≠ b := by intro ee; subst ee; simp [hD] at hk'
          show w'.heap[q]? = some u
          rw [g5 q this]; exact hk
        · cases hk
end
end Go.Sl
namespace Go.Sl
/-- the array behind a slice's cell j, as a slice -/
def arE (v : Value) (j N : Nat) : Value := match v with
  | .slice (some a) _ _ => .slice (some ⟨a.block, a.off + j, none⟩) N N
  | _ => undef
section
variable {P : Program} {n : Nat} {s w : World} {a : Act} {E : List (Nat × Value)} {L : List HItem} {Q : Exit → Act → World → Prop} {next : Act → World → Prop}
variable {d : Nat} {dst : Option Nat} {ty : TypeId} {pos : String} {aft : Array Edge} {g : Option (Nat × Bool)}
theorem r_sliceE (h : St n s a w E L) {t el : TypeId} {x : Operand} {j N M size sz by_ : Nat} {v : Value} {xs : List Value} (hx : ev E x = some (elP v j)) (hu : P.underlying t = some (.array N el)) (hs : tsz P el = some (sz, by_)) (hN : Nat.blt 0 N = true)
    (hv : Views L size v M xs) (hM : 0 < M) : (execOp a.eval ⟨dst, .slice t x none none none, ty, pos, aft, g⟩).run P w = .ok (.value (arE v j N)) w := by
  obtain ⟨b, o, cap, rfl, he, _⟩ := (hv _ h.2.2.2.2).elP hM
  rw [he] at hx
  exact r_sliceA h hx hu hs hN
theorem ViewsB.arE {N : Nat} {v : Value} {l : List (BA N)} {y : BA N} {i : Nat} (hv : Views L N v l.length (l.flatMap cellsA)) (hy : l[i]? = some y) (hm : N ≤ maxLen) (hN : 0 < N) : ViewsB L (arE v (i * N) N) y.val := by
  have hlt : i < l.length := (List.getElem?_eq_some_iff.1 hy).1
  intro h hs
  obtain ⟨b, o, cap, rfl, _, cur, e, fr, hb, hc⟩ := (hv h hs).elP (by omega)
  refine ⟨by simp [bs], _, N, by rw [y.len]; rfl, by rw [y.len]; exact Nat.le_refl _, hm, .inr ⟨b, o + i * N, cur, e, fr, rfl, hb, ?_⟩⟩
  have hget := flatMap_get (cells := cellsA) (size := N) Row.len l i y hy
  rw [← hc, List.drop_take, List.take_take, List.drop_drop] at hget
  have h1 : i * N + N ≤ l.length * N := by
    have : (i + 1) * N ≤ l.length * N := Nat.mul_le_mul_right _ hlt
    rw [Nat.add_mul] at this; omega
  rw [Nat.min_eq_left (by omega)] at hget
  rw [Nat.mul_one, y.len]
  exact hget
end
end Go.Sl

