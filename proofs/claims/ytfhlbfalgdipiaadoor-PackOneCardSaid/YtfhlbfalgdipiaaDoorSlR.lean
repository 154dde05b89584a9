/- A small library for walks, part R: parts of arrays; guards in drawn regions; blocks whose cells stand in a row. No statement is proved here. -/
import Derived.Test.YtfhlbfalgdipiaaDoorSlQ
import Derived.StillTail
set_option linter.unusedVariables false
set_option linter.unusedSimpArgs false
namespace Go.Sl
section
variable {P : Program} {n : Nat} {s w : World} {a : Act} {E : List (Nat × Value)} {L F : List HItem} {Q : Exit → Act → World → Prop} {next : Act → World → Prop}
variable {d : Nat} {dst : Option Nat} {ty : TypeId} {pos : String} {aft : Array Edge} {g : Option (Nat × Bool)}

theorem r_sliceA (h : St n s a w E L) {t el : TypeId} {x : Operand} {b o N size by_ : Nat} (hx : ev E x = some (.pointer (some ⟨b, o, none⟩))) (hu : P.underlying t = some (.array N el)) (hs : tsz P el = some (size, by_)) (hN : Nat.blt 0 N = true) :
    (execOp a.eval ⟨dst, .slice t x none none none, ty, pos, aft, g⟩).run P w = .ok (.value (.slice (some ⟨b, o, none⟩) N N)) w := by
  have h0 : 0 < N := Nat.le_of_ble_eq_true hN
  have hb := run_bounds (P := P) (isS := false) (len := N) (cap := N) (lo := none) (hi := none) h.1 rfl rfl (Nat.zero_le _) (Nat.le_refl _) w
  simp only [Option.map_none] at hb
  have hne : ¬ N = 0 := by omega
  simp [execOp, h.1.ev hx, Instr.sliceAt, run_underlying hu, Instr.sureAddr, hb, run_sizeOf hs, hne, Addr.add_none]
theorem r_sliceAx (h : St n s a w E L) {t el : TypeId} {x : Operand} {lo hi : Option Operand} {b o N size by_ : Nat} (hx : ev E x = some (.pointer (some ⟨b, o, none⟩))) (hu : P.underlying t = some (.array N el)) (hs : tsz P el = some (size, by_)) (i j : Nat) (hl : Bnd E lo 0 i) (hh : Bnd E hi N j) (h1 : i ≤ j) (h2 : j ≤ N) (h3 : i < N) :
    (execOp a.eval ⟨dst, .slice t x lo hi none, ty, pos, aft, g⟩).run P w = .ok (.value (.slice (some ⟨b, o + i * size, none⟩) (j - i) (N - i))) w := by
  have hb := run_bounds (P := P) (isS := false) (len := N) (cap := N) h.1 hl hh h1 h2 w
  have hne : ¬ N = i := by omega
  simp [execOp, h.1.ev hx, Instr.sliceAt, run_underlying hu, Instr.sureAddr, hb, run_sizeOf hs, hne, Addr.add_none]
/-- the bytes of an array in its block, through a slice of it -/
theorem ViewsB.arr {b N cap : Nat} {l : List UInt8} {T : TypeId} {fr : Nat × Nat} (i : Nat) (hi : L[i]? = some (Blk b (.cells (arr8 l) T fr))) (hl : l.length = N) (hc : N ≤ cap) (hm : cap ≤ maxLen) : ViewsB L (.slice (some ⟨b, 0, none⟩) N cap) l := by
  subst hl
  exact Views.of_mem i hi fun h hb => ⟨by simp [bs], _, cap, rfl, hc, hm, .inr ⟨b, 0, arr8 l, T, fr, rfl, hb, by simp [arr8, bs, List.take_of_length_le]⟩⟩

/-- number i of a drawn region is taken first, guarded or not -/
theorem h_takeG {s : World} {ops : Array Oper} {listed listed' : Array Bool} {fuel : Nat} {op : Op} {v : Value} (h : St n s a w E L) (i : Nat) {j : Nat} {b g : Bool} (hl : listed.setIfInBounds i true = listed') (hi : ops[i]? = some (Oper.mk (some d) op ty pos aft (some (j, b)))) (hs : Region.noSelect ops = true) (hf : Region.free .any ops listed i = true) (hr : (Region.ready .any ops listed).contains i = true)
    (hQ : ∀ v c a w, Q (.panic c) (a.put (some d) v) w → Q (.panic c) a w) (hF : Sat s w F) (hg : Wants ops E j b g) (hrun : g = true → ∀ w, Sat s w F → (execOp a.eval (Oper.mk (some d) op ty pos aft (some (j, b)))).run P w = .ok (.value v) w) (hd : Nat.blt d n = true)
    (k : ∀ a w, St n s a w ((d, gval g v) :: E) L → Held P s ops Q F fuel listed' a w) : Held P s ops Q F (fuel + 1) listed a w := by
  subst hl
  have hw := hg.wanted h.1
  cases g with
  | true => exact wpAnyH_take hi hs hf hr (hQ _) (.inl ⟨by simp [Region.wanted, hw], hrun rfl⟩) hF (k _ _ ⟨h.1.put hd _, h.2⟩)
  | false => exact wpAnyH_take hi hs hf hr (hQ _) (.inr ⟨by simp [Region.wanted, hw], rfl⟩) hF (k _ _ ⟨h.1.put hd _, h.2⟩)

/-- a cell of a block whose cells stand in a row is written -/
theorem op_storeN (h : St n s a w E L) {t : TypeId} {x y : Operand} {b o by_ : Nat} {v : Value} (hx : ev E x = some (.pointer (some ⟨b, o, none⟩))) (hy : ev E y = some v) (hs : tsz P t = some (1, by_)) (h1 : v.oneCell' = true)
    (i : Nat) {vs : List Value} {T : TypeId} (hi : L[i]? = some (Blk b (.cells ⟨vs⟩ T))) (ho : Nat.blt o vs.length = true)
    (k : ∀ a w, St n s a w E (L.set i (Blk b (.cells ⟨vs.set o v⟩ T))) → next a w) : (Oper.mk none (.store t x y) ty pos aft g).wp P a w next Q := by
  refine op_store h hx hy hs h1 i hi ho (unfrozen_zero _) (fun a w h => k a w ?_)
  have e : (⟨vs⟩ : Array Value).setIfInBounds o v = ⟨vs.set o v⟩ := by simp
  rw [e] at h; exact h
/-- a whole struct, or array, out of a block whose cells stand in a row -/
theorem r_ldA (h : St n s a w E L) {t : TypeId} {x : Operand} {b sz by_ : Nat} {dd : TypeDesc} (hx : ev E x = some (.pointer (some ⟨b, 0, none⟩))) (hu : P.underlying t = some dd) (hf : TypeDesc.flat dd = false) (hs : tsz P t = some (sz, by_))
    (i : Nat) {vs : List Value} {T : TypeId} {fr : Nat × Nat} (hi : L[i]? = some (Blk b (.cells ⟨vs⟩ T fr))) (hl : vs.length = sz) : (execOp a.eval ⟨dst, .load t x, ty, pos, aft, g⟩).run P w = .ok (.value (.agg ⟨vs⟩)) w :=
  r_loadAgg h hx hu hf hs i hi (us := vs) (by rw [List.drop_zero, List.take_of_length_le (by simp [hl])]) hl
/-- a whole struct, or array, into such a block -/
theorem op_stA (h : St n s a w E L) {t : TypeId} {x y : Operand} {b sz by_ : Nat} {us : List Value} (hx : ev E x = some (.pointer (some ⟨b, 0, none⟩))) (hy : ev E y = some (.agg ⟨us⟩)) (hs : tsz P t = some (sz, by_)) (hl : us.length = sz) (h1 : ∀ u ∈ us, u.oneCell' = true)
    (i : Nat) {vs : Array Value} {T : TypeId} (hi : L[i]? = some (Blk b (.cells vs T))) (hv : vs.size = sz)
    (k : ∀ a w, St n s a w E (L.set i (Blk b (.cells ⟨us⟩ T))) → next a w) : (Oper.mk none (.store t x y) ty pos aft g).wp P a w next Q := by
  subst hl
  exact op_storeAgg (us := us) (vs' := ⟨us⟩) h hx hy hs h1 i hi (Nat.ble_eq_true_of_le (by simp [hv])) (NF.zero _) (splice_all _ _ (by simp [hv])) k
theorem arr8_one (l : List UInt8) : ∀ u ∈ l.map bv, u.oneCell' = true := bs_one l
/-- a loop, of which the state at its head is shown behind the call -/
theorem c_loopX (_h : St n s a w E L) {X : Type} {c : Code} (E' : X → List (Nat × Value)) (L' : X → List HItem) (φ : X → Prop) (m : X → Nat) (x : X) (h : St n s a w (E' x) (L' x)) (h0 : φ x)
    (round : ∀ x a w, φ x → St n s a w (E' x) (L' x) → c.wp P (Exit.then (fun a' w' => ∃ x', St n s a' w' (E' x') (L' x') ∧ φ x' ∧ m x' < m x) Q) a w) : (Code.loop c).wp P Q a w :=
  c_loop E' L' φ m x h h0 round
/-! ### A drawn region whose last operations stand in a row: those ahead of them only read -/
theorem c_tail {id : Nat} {l : List Oper} (m : Nat) (hm : P.follows .mixedOrders = true) (hB : Region.lexTailB .any l.toArray m = true) (h : St n s a w E L)
    (k : ∀ a w, St n s a w E L → wpStill P l.toArray w (fun a' => wpList P l.toArray Q (l.drop m) a' w) (l.take m) a) : (Code.region id l.toArray true).wp P Q a w :=
  wp_region_still_tail m hm hB (k a { w with drawn := w.drawn + 1 } ⟨h.1, h.2.congr rfl rfl rfl rfl⟩)
theorem yv {QQ : Act → Prop} {ops : Array Oper} {rest : List Oper} {op : Op} {v : Value} (h : St n s a w E L) (hr : (execOp a.eval (Oper.mk (some d) op ty pos aft none)).run P w = .ok (.value v) w) (hd : Nat.blt d n = true)
    (k : ∀ a, St n s a w ((d, v) :: E) L → wpStill P ops w QQ rest a) : wpStill P ops w QQ (Oper.mk (some d) op ty pos aft none :: rest) a := by
  unfold wpStill
  rw [if_pos (by simp [Region.wanted])]
  unfold Oper.still
  rw [hr, Oper.stillUpon_value]
  exact k _ ⟨h.1.put hd v, h.2⟩
theorem yvG {QQ : Act → Prop} {ops : Array Oper} {rest : List Oper} {op : Op} {v : Value} (h : St n s a w E L) {j : Nat} {b g : Bool} (hg : Wants ops E j b g) (hr : g = true → (execOp a.eval (Oper.mk (some d) op ty pos aft (some (j, b)))).run P w = .ok (.value v) w) (hd : Nat.blt d n = true)
    (k : ∀ a, St n s a w ((d, gval g v) :: E) L → wpStill P ops w QQ rest a) : wpStill P ops w QQ (Oper.mk (some d) op ty pos aft (some (j, b)) :: rest) a := by
  have hw := hg.wanted h.1
  cases g with
  | true =>
    unfold wpStill
    rw [if_pos (by simp [Region.wanted, hw])]
    unfold Oper.still
    rw [hr rfl, Oper.stillUpon_value]
    exact k _ ⟨h.1.put hd _, h.2⟩
  | false =>
    unfold wpStill
    rw [if_neg (by simp [Region.wanted, hw])]
    exact k _ ⟨h.1.put hd _, h.2⟩
theorem ynil {QQ : Act → Prop} {ops : Array Oper} (h : QQ a) : wpStill P ops w QQ [] a := h

theorem sepL_erase : ∀ (L : List HItem) (i : Nat) (h : HM), sepL L h → sepL (L.eraseIdx i) h
  | [], _, _, h => by simpa using h
  | I :: L, 0, h, hs => by simpa using sepL_tail hs
  | I :: L, i + 1, h, ⟨D, hI, hL⟩ => by
    rw [List.eraseIdx_cons_succ]
    exact ⟨D, hI, sepL_erase L i _ hL⟩
/-- an item is let go -/
theorem St.rid (h : St n s a w E L) (i : Nat) : St n s a w E (L.eraseIdx i) := ⟨h.1, h.2.1, h.2.2.1, h.2.2.2.1, sepL_erase L i _ h.2.2.2.2⟩
/-- rows that are a call's own -/
theorem St.toOwnL {α : Type} {enc : α → Value} {b N : Nat} {vs : Array Value} {T : TypeId} {fr : Nat × Nat} (h : St n s a w E (Blk b (.cells vs T fr) :: L)) (l : List α) (hf : NF fr vs.size) (hx : vs.toList = l.map enc) (hN : N = l.length) (hm : Nat.ble N maxLen = true) :
    St n s a w E (OwnL enc (.slice (some ⟨b, 0, none⟩) N N) l :: L) := by
  subst hN
  exact ⟨h.1, h.2.toOwn 1 l.length hf (Nat.le_of_ble_eq_true hm) hx (by rw [Nat.mul_one, ← List.length_map (f := enc), ← hx]; simp)⟩
theorem St.addNilL {α : Type} {enc : α → Value} (h : St n s a w E L) : St n s a w E (OwnL enc (.slice none 0 0) [] :: L) := h.addNil 1
theorem St.addNilM {α : Type} {size : Nat} {cells : α → List Value} (h : St n s a w E L) : St n s a w E (OwnM size cells (.slice none 0 0) [] :: L) := h.addNil size
theorem op_appendL1R {α : Type} {enc : α → Value} {u : α} {T : TypeId} {b : Nat} {fr : Nat × Nat} (h : St n s a w E (Blk b (.cells #[enc u] T fr) :: L)) (h1 : (enc u).oneCell' = true) {t el : TypeId} {x y : Operand} {bytes : Nat} {z v : Value} {l : List α} (hx : ev E x = some v) (hy : ev E y = some (.slice (some ⟨b, 0, none⟩) 1 1)) (hu : P.underlying t = some (.slice el)) (hs : tsz P el = some (1, bytes)) (hz : tzero P el = some z)
    (hzs : z.cells.size = 1) (hby : Nat.ble bytes 4096 = true) (i : Nat) (hi : L[i]? = some (OwnL enc v l)) (hN : l.length + 1 ≤ 4294967296)
    (hd : Nat.blt d n = true) (k : ∀ v' a w, Sat s w (L.set i (Rd 1 v l.length (l.map enc))) → St n s a w ((d, v') :: E) (L.set i (OwnL enc v' (l ++ [u]))) → next a w) :
    (Oper.mk (some d) (.call { callee := .builtin .append, args := #[x, y], argTypes := #[t, t] }) ty pos aft g).wp P a w next Q := by
  have hv : Views (Blk b (.cells #[enc u] T fr) :: L) 1 (.slice (some ⟨b, 0, none⟩) 1 1) 1 [enc u] := Views.blk 0 rfl rfl rfl rfl rfl
  refine op_appendR (xs := l.map enc) (N := l.length) h hx hy hu hs hz hzs hby (i + 1) (show L[i]? = _ from hi) (Src.views hu hv h.2) (by intro u' hu'; simp at hu'; subst hu'; exact h1) hN hd (fun v' a w hR h => k v' a w (hR.drop 1) ?_)
  have e : Own 1 v' (l.length + 1) (l.map enc ++ [enc u]) = OwnL enc v' (l ++ [u]) := OwnL_eq (by simp) (by simp)
  rw [e] at h; exact h.drop 1
/-- a test that is told in other words -/
theorem c_condP (h : St n s a w E L) {c : Operand} {x y : Code} {t : Bool} {p : Prop} (hc : ev E c = some (.bool t)) (hp : t = true ↔ p) (ht : p → x.wp P Q a w) (hf : ¬ p → y.wp P Q a w) : (Code.cond c x y).wp P Q a w :=
  c_cond h hc (fun e => ht (hp.1 e)) (fun e => hf (fun q => by rw [hp.2 q] at e; cases e))
end
end Go.Sl
