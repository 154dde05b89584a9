/- A small library for walks, part U: contracts on an item in its place, calls of function values, structs in rows. No statement is proved here. -/
import Derived.Test.YtfhlbfalgdipiaaDoorSlT
set_option linter.unusedVariables false
set_option linter.unusedSimpArgs false
namespace Go.Sl

theorem perm_set : ∀ (L : List HItem) (i : Nat) (I : HItem), i < L.length → (I :: L.eraseIdx i).Perm (L.set i I)
  | [], _, _, h => by simp at h
  | J :: L, 0, I, _ => by simp
  | J :: L, i + 1, I, h => by
    rw [List.eraseIdx_cons_succ, List.set_cons_succ]
    exact (List.Perm.swap J I _).trans ((perm_set L i I (by simpa using h)).cons J)

theorem Sat.rid {s w : World} {L : List HItem} (h : Sat s w L) (i : Nat) : Sat s w (L.eraseIdx i) := ⟨h.1, h.2.1, h.2.2.1, sepL_erase L i _ h.2.2.2⟩
/-- a contract on one item, where that item stands -/
theorem at0 {P : Program} {f : FuncId} {args : Array Value} {s w : World} {X : Type} {r : X → Value} {I : HItem} {I' : X → HItem} {φ : X → Prop} {L : List HItem} (i : Nat) (hi : L[i]? = some I) (hs : Sat s w L)
    (hc : ∀ F, F = L.eraseIdx i → Sat s w (I :: F) → Calls P f args w (Ret s r (fun x => I' x :: F) φ)) : Calls P f args w (Ret s r (fun x => L.set i (I' x)) φ) :=
  (hc _ rfl (hs.front i hi)).mono fun _ _ ⟨x, he, hs', hφ⟩ => ⟨x, he, hs'.perm (perm_set L i _ (List.getElem?_eq_some_iff.1 hi).1), hφ⟩
theorem set_same : ∀ (L : List HItem) (i : Nat) (I : HItem), L[i]? = some I → L.set i I = L
  | [], _, _, h => by simp at h
  | J :: L, 0, I, h => by simp at h; subst h; rfl
  | J :: L, i + 1, I, h => by rw [List.set_cons_succ, set_same L i I (by simpa using h)]
/-- one that leaves the item as it is -/
theorem atS {P : Program} {f : FuncId} {args : Array Value} {s w : World} {X : Type} {r : X → Value} {I : HItem} {φ : X → Prop} {L : List HItem} (i : Nat) (hi : L[i]? = some I) (hs : Sat s w L)
    (hc : ∀ F, F = L.eraseIdx i → Sat s w (I :: F) → Calls P f args w (Ret s r (fun _ => I :: F) φ)) : Calls P f args w (Ret s r (fun _ => L) φ) := by
  have := at0 (I' := fun _ => I) i hi hs hc
  rwa [set_same L i I hi] at this
/-- one that leaves the item as it is, and adds another one -/
theorem atA {P : Program} {f : FuncId} {args : Array Value} {s w : World} {X : Type} {r : X → Value} {I : HItem} {N : X → HItem} {φ : X → Prop} {L : List HItem} (i : Nat) (hi : L[i]? = some I) (hs : Sat s w L)
    (hc : ∀ F, F = L.eraseIdx i → Sat s w (I :: F) → Calls P f args w (Ret s r (fun x => N x :: I :: F) φ)) : Calls P f args w (Ret s r (fun x => N x :: L) φ) :=
  (hc _ rfl (hs.front i hi)).mono fun _ _ ⟨x, he, hs', hφ⟩ => ⟨x, he, by
    have := hs'.perm ((perm_set L i I (List.getElem?_eq_some_iff.1 hi).1).cons _)
    rwa [set_same L i I hi] at this, hφ⟩
/-- one that adds an item, too -/
theorem atN {P : Program} {f : FuncId} {args : Array Value} {s w : World} {X : Type} {r : X → Value} {I : HItem} {I' N : X → HItem} {φ : X → Prop} {L : List HItem} (i : Nat) (hi : L[i]? = some I) (hs : Sat s w L)
    (hc : ∀ F, F = L.eraseIdx i → Sat s w (I :: F) → Calls P f args w (Ret s r (fun x => N x :: I' x :: F) φ)) : Calls P f args w (Ret s r (fun x => N x :: L.set i (I' x)) φ) :=
  (hc _ rfl (hs.front i hi)).mono fun _ _ ⟨x, he, hs', hφ⟩ => ⟨x, he, hs'.perm ((perm_set L i _ (List.getElem?_eq_some_iff.1 hi).1).cons _), hφ⟩

theorem ViewsB.len_le {L : List HItem} {v : Value} {l : List UInt8} (hv : ViewsB L v l) {s w : World} (hs : Sat s w L) : l.length ≤ 9223372036854775807 := by
  obtain ⟨A, cap, _, h1, h2⟩ := Views.shape hv hs
  simp [maxLen] at h2; omega
theorem Views.len_le {L : List HItem} {size : Nat} {v : Value} {n : Nat} {xs : List Value} (hv : Views L size v n xs) {s w : World} (hs : Sat s w L) : n ≤ 9223372036854775807 := by
  obtain ⟨A, cap, _, h1, h2⟩ := Views.shape hv hs
  simp [maxLen] at h2; omega
theorem ViewsB.of_drop {L : List HItem} {v : Value} {l : List UInt8} (k : Nat) (hv : ViewsB (L.drop k) v l) : ViewsB L v l := Views.of_drop k hv
theorem Views.prep {L : List HItem} {size : Nat} {v : Value} {n : Nat} {xs : List Value} (hv : Views L size v n xs) (G : List HItem) : Views (G ++ L) size v n xs :=
  Views.of_drop G.length (by rw [List.drop_left]; exact hv)
theorem ViewsB.prep {L : List HItem} {v : Value} {l : List UInt8} (hv : ViewsB L v l) (G : List HItem) : ViewsB (G ++ L) v l := Views.prep hv G
theorem CellsAt.prep {L : List HItem} {p : Addr} {us : List Value} (hc : CellsAt L p us) (G : List HItem) : CellsAt (G ++ L) p us := ⟨hc.1, fun h hs => by
  have := sepL_drop G.length _ h hs
  rw [List.drop_left] at this
  exact hc.2 h this⟩

/-- how the things of a row lie in cells: so many each, one value a cell -/
class Row {α : Type} (cells : α → List Value) (size : outParam Nat) : Prop where
  len : ∀ x, (cells x).length = size
  one : ∀ x, ∀ u ∈ cells x, u.oneCell' = true

section
variable {P : Program} {n : Nat} {s w : World} {a : Act} {E : List (Nat × Value)} {L : List HItem} {Q : Exit → Act → World → Prop} {next : Act → World → Prop}
variable {d : Nat} {dst : Option Nat} {ty : TypeId} {pos : String} {aft : Array Edge} {g : Option (Nat × Bool)}

/-- a function value is called -/
theorem op_callV (h : St n s a w E L) {y : Operand} {f : FuncId} {fs cs : Array Value} {xs : List Operand} {ats : Array TypeId} {vs : List Value} {X : Type} {r : X → Value} {L' : X → List HItem} {φ : X → Prop} (hy : ev E y = some (.func (.func f) fs cs)) (hx : evs E xs = some vs) (hf : isGo P f = true)
    (hc : Calls P f (fs ++ vs.toArray ++ cs) w (Ret s r L' φ)) (hd : Nat.blt d n = true) (k : ∀ x a w, φ x → St n s a w ((d, r x) :: E) (L' x) → next a w) :
    (Oper.mk (some d) (.call { callee := .value y, args := xs.toArray, argTypes := ats }) ty pos aft g).wp P a w next Q := by
  have he : (execOp a.eval (Oper.mk (some d) (.call { callee := .value y, args := xs.toArray, argTypes := ats }) ty pos aft g)).run P w = .ok (.enter f (fs ++ vs.toArray ++ cs)) w := by
    have : execOp a.eval (Oper.mk (some d) (.call { callee := .value y, args := xs.toArray, argTypes := ats }) ty pos aft g) = (do let q ← Deferred.ofValue (a.eval y) (xs.toArray.map a.eval); invoke q.target q.args) := rfl
    rw [this, h.1.ev hy]
    show (callFunc f (fs ++ xs.toArray.map a.eval ++ cs)).run P w = _
    rw [run_callFunc_go hf]
    simp [h.1.evs hx]
  unfold Oper.wp
  rw [he]
  exact hc.mono fun e w' ⟨x, he, hs, hφ⟩ => by subst he; exact k x _ _ hφ ⟨h.1.put hd _, hs⟩

/-- bytes copied over an array in its block -/
theorem op_copyBlk (h : St n s a w E L) {t t2 el : TypeId} {x y : Operand} {b o N cap by_ : Nat} {vs : List Value} {T : TypeId} {vx : Value} {m : List UInt8} (hx : ev E x = some (.slice (some ⟨b, o, none⟩) N cap)) (hy : ev E y = some vx) (hu : P.underlying t = some (.slice el)) (hs : tsz P el = some (1, by_))
    (i : Nat) (hi : L[i]? = some (Blk b (.cells ⟨vs⟩ T))) (hm : ViewsB L vx m) (hN : o + N ≤ vs.length) (hd : Nat.blt d n = true)
    (k : ∀ a w, St n s a w ((d, .int .i64 ((min m.length N : Nat) : Int)) :: E) (L.set i (Blk b (.cells (splice ⟨vs⟩ o (bs (m.take N))) T))) → next a w) :
    (Oper.mk (some d) (.call { callee := .builtin .copy, args := #[x, y], argTypes := #[t, t2] }) ty pos aft g).wp P a w next Q := by
  have hil : i < L.length := (List.getElem?_eq_some_iff.1 hi).1
  have hlen : (Builtin.lenOf vx).run P w = .ok m.length w := by
    obtain ⟨A, c, rfl, _⟩ := Views.shape hm h.2
    rfl
  have hsrc : (Builtin.firstCells 1 (min m.length N) vx).run P w = .ok ((bs m).take (min m.length N * 1)).toArray w := RDh.cells P (hm _ h.2.2.2.2) _ (Nat.min_le_left _ _)
  have hnat : ∀ q : Nat, Nat.min m.length q = min m.length q := fun _ => rfl
  have htk : (bs m).take (min m.length N * 1) = bs (m.take N) := by
    rw [Nat.mul_one, bs_take]
    by_cases hq : m.length ≤ N
    · rw [Nat.min_eq_left hq, List.take_length, List.take_of_length_le hq]
    · rw [Nat.min_eq_right (by omega)]
  rw [htk] at hsrc
  have hF := h.2.front i hi
  have hb : w.heap[b]? = some (.cells ⟨vs⟩ T) := h.2.blk i hi
  have hbl : (bs (m.take N)).length ≤ N := by rw [bs_length, List.length_take]; omega
  obtain ⟨w', hr, g1, g2, g3, g4, g5⟩ := run_storeCells_gen P b T (0, 0) o (bs (m.take N)) 0 ⟨vs⟩ w hb (by show o + 0 + _ ≤ vs.length; omega) (NF.zero _) (bs_one _)
  refine op_run h (w' := w') ?_ hd ?_ k
  · simp [execOp, resolve, invoke, builtin, h.1.ev hx, h.1.ev hy, Builtin.copy_, run_underlying hu, hlen, hnat, run_sizeOf hs, hsrc, hr, goInt]
  · have := Sat.turn hF g1 g2 g3 g4 g5
    exact ⟨this.1, this.2.1, this.2.2.1, sepL_set hil this.2.2.2⟩

/-- a whole struct, or array, of a row that is read -/
theorem r_elM {α : Type} {size : Nat} {cells : α → List Value} [Row cells size] (h : St n s a w E L) {t : TypeId} {x : Operand} {j by_ N : Nat} {v : Value} {l : List α} {u : α} {dd : TypeDesc} (hx : ev E x = some (elP v (j * size))) (hu : P.underlying t = some dd) (hf : TypeDesc.flat dd = false) (hs : tsz P t = some (size, by_))
    (h0 : Nat.blt 0 size = true) (hv : Views L size v N (l.flatMap cells)) (hj : l[j]? = some u) : (execOp a.eval ⟨dst, .load t x, ty, pos, aft, g⟩).run P w = .ok (.value (.agg ⟨cells u⟩)) w :=
  r_elA h hx hu hf hs hv (flatMap_get Row.len l j u hj) (Row.len u) h0
theorem flatMap_cell {α : Type} {size : Nat} {cells : α → List Value} [Row cells size] {l : List α} {j off : Nat} {u : α} {c : Value} (hj : l[j]? = some u) (hc : nth (cells u) off = some c) : (l.flatMap cells)[j * size + off]? = some c := by
  have h1 := flatMap_get (size := size) (cells := cells) Row.len l j u hj
  rw [nth_eq] at hc
  have hlt : off < size := by
    have := (List.getElem?_eq_some_iff.1 hc).1
    rwa [Row.len (size := size) u] at this
  rw [← h1, List.getElem?_take, if_pos hlt, List.getElem?_drop] at hc
  exact hc
/-- a field of one cell of a struct of a row that is read -/
theorem r_elMf {α : Type} {size : Nat} {cells : α → List Value} [Row cells size] (h : St n s a w E L) {t : TypeId} {x : Operand} {j off N : Nat} {v c : Value} {l : List α} {u : α} {dd : TypeDesc} (hx : ev E x = some (elP v (j * size + off))) (hu : P.underlying t = some dd) (hf : TypeDesc.flat dd = true)
    (hv : Views L size v N (l.flatMap cells)) (hj : l[j]? = some u) (hc : nth (cells u) off = some c) : (execOp a.eval ⟨dst, .load t x, ty, pos, aft, g⟩).run P w = .ok (.value c) w :=
  r_elG h hx hu hf hv (flatMap_cell hj hc)
/-- a field that is a struct or an array of a struct of a row that is read -/
theorem r_elMa {α : Type} {size : Nat} {cells : α → List Value} [Row cells size] (h : St n s a w E L) {t : TypeId} {x : Operand} {j off sz by_ N : Nat} {v : Value} {l : List α} {u : α} {us : List Value} {dd : TypeDesc} (hx : ev E x = some (elP v (j * size + off))) (hu : P.underlying t = some dd) (hf : TypeDesc.flat dd = false) (hs : tsz P t = some (sz, by_))
    (hv : Views L size v N (l.flatMap cells)) (hj : l[j]? = some u) (hc : ((cells u).drop off).take sz = us) (hl : us.length = sz) (hle : off + sz ≤ size) (h0 : Nat.blt 0 sz = true) : (execOp a.eval ⟨dst, .load t x, ty, pos, aft, g⟩).run P w = .ok (.value (.agg ⟨us⟩)) w := by
  refine r_elA h hx hu hf hs hv ?_ hl h0
  have h1 := flatMap_get (size := size) (cells := cells) Row.len l j u hj
  rw [← hc, ← h1, List.drop_take, List.take_take, List.drop_drop, Nat.min_eq_left (by omega)]
theorem r_elMa8 {α : Type} {size : Nat} {cells : α → List Value} [Row cells size] (h : St n s a w E L) {t : TypeId} {x : Operand} {j off sz by_ N : Nat} {v : Value} {l : List α} {u : α} {m : List UInt8} {dd : TypeDesc} (hx : ev E x = some (elP v (j * size + off))) (hu : P.underlying t = some dd) (hf : TypeDesc.flat dd = false) (hs : tsz P t = some (sz, by_))
    (hv : Views L size v N (l.flatMap cells)) (hj : l[j]? = some u) (hc : (cells u).drop off = bs m) (hl : m.length = sz) (hle : off + sz ≤ size) (h0 : Nat.blt 0 sz = true) : (execOp a.eval ⟨dst, .load t x, ty, pos, aft, g⟩).run P w = .ok (.value (.agg (arr8 m))) w :=
  r_elMa (us := bs m) h hx hu hf hs hv hj (by rw [hc, List.take_of_length_le (by rw [bs_length, hl]; exact Nat.le_refl _)]) (by rw [bs_length, hl]) hle h0
theorem r_ldF8 (h : St n s a w E L) {t : TypeId} {x : Operand} {b o sz by_ : Nat} {dd : TypeDesc} (hx : ev E x = some (.pointer (some ⟨b, o, none⟩))) (hu : P.underlying t = some dd) (hf : TypeDesc.flat dd = false) (hs : tsz P t = some (sz, by_)) (i : Nat) {vs : List Value} {m : List UInt8} {T : TypeId} {fr : Nat × Nat}
    (hi : L[i]? = some (Blk b (.cells ⟨vs⟩ T fr))) (hv : vs.drop o = bs m) (hl : m.length = sz) : (execOp a.eval ⟨dst, .load t x, ty, pos, aft, g⟩).run P w = .ok (.value (.agg (arr8 m))) w :=
  r_loadAgg h hx hu hf hs i hi (us := bs m) (by show (vs.drop o).take sz = _; rw [hv, List.take_of_length_le (by rw [bs_length, hl]; exact Nat.le_refl _)]) (by rw [bs_length, hl])
/-- a whole struct of one's own row is written -/
theorem op_storeR {α : Type} {size : Nat} {cells : α → List Value} [Row cells size] (h : St n s a w E L) {t : TypeId} {x y : Operand} {j by_ : Nat} {v : Value} {u : α} {l : List α} (hx : ev E x = some (elP v (j * size))) (hy : ev E y = some (.agg ⟨cells u⟩)) (hs : tsz P t = some (size, by_))
    (it : Nat) (hit : L[it]? = some (OwnM size cells v l)) (hj : j < l.length)
    (k : ∀ a w, St n s a w E (L.set it (OwnM size cells v (l.set j u))) → next a w) : (Oper.mk none (.store t x y) ty pos aft g).wp P a w next Q :=
  op_storeM Row.len h hx hy hs (Row.one (size := size) u) it hit hj k
/-- a struct behind a row of one's own, out of the block that was made for it -/
theorem op_appendR1 {α : Type} {size : Nat} {cells : α → List Value} [Row cells size] {u : α} {T : TypeId} {b : Nat} {fr : Nat × Nat} (h : St n s a w E (Blk b (.cells ⟨cells u⟩ T fr) :: L)) {t el : TypeId} {x y : Operand} {bytes : Nat} {z v : Value} {l : List α} (hx : ev E x = some v) (hy : ev E y = some (.slice (some ⟨b, 0, none⟩) 1 1)) (hu : P.underlying t = some (.slice el)) (hs : tsz P el = some (size, bytes)) (hz : tzero P el = some z)
    (hzs : z.cells.size = size) (hby : Nat.ble bytes 4096 = true) (i : Nat) (hi : L[i]? = some (OwnM size cells v l)) (hN : l.length + 1 ≤ 4294967296)
    (hd : Nat.blt d n = true) (k : ∀ v' a w, St n s a w ((d, v') :: E) (L.set i (OwnM size cells v' (l ++ [u]))) → next a w) :
    (Oper.mk (some d) (.call { callee := .builtin .append, args := #[x, y], argTypes := #[t, t] }) ty pos aft g).wp P a w next Q :=
  op_appendM1 h (Row.len u) (Row.one (size := size) u) hx hy hu hs hz hzs hby i hi hN hd k
/-- a row behind nil: one's own copy -/
theorem op_appendnR {α : Type} {size : Nat} {cells : α → List Value} [Row cells size] (h : St n s a w E L) {t el : TypeId} {x y : Operand} {bytes : Nat} {z vx : Value} {l : List α} (hx : ev E x = some (.slice none 0 0)) (hy : ev E y = some vx) (hu : P.underlying t = some (.slice el)) (hs : tsz P el = some (size, bytes)) (hz : tzero P el = some z)
    (hzs : z.cells.size = size) (hby : Nat.ble bytes 4096 = true) (hv : Views L size vx l.length (l.flatMap cells)) (hN : l.length ≤ 4294967296)
    (hd : Nat.blt d n = true) (k : ∀ v' a w, St n s a w ((d, v') :: E) (OwnM size cells v' l :: L) → next a w) :
    (Oper.mk (some d) (.call { callee := .builtin .append, args := #[x, y], argTypes := #[t, t] }) ty pos aft g).wp P a w next Q :=
  op_appendNil h hx hy hu hs hz hzs hby (Src.views hu hv h.2) (by
    intro u hu
    obtain ⟨x, _, hx⟩ := List.mem_flatMap.1 hu
    exact Row.one (size := size) x u hx) hN hd k
/-- a slice written out of one struct -/
theorem op_build1 (h : St n s a w E L) {t el : TypeId} {y : Operand} {size by_ : Nat} {us : List Value} {z : Value} (hu : P.underlying t = some (.slice el)) (hs : tsz P el = some (size, by_)) (hz : tzero P el = some z)
    (hy : ev E y = some (.agg ⟨us⟩)) (hlen : Nat.ble (1 * size) 16777216 = true) (hpos : Nat.beq (1 * size) 0 = false) (hl : us.length = size) (hd : Nat.blt d n = true)
    (k : ∀ b a w, St n s a w ((d, .slice (some ⟨b, 0, none⟩) 1 1) :: E) (Blk b (.cells ⟨us⟩ el) :: L) → next a w) : (Oper.mk (some d) (.buildSlice t 1 #[(0, y)]) ty pos aft g).wp P a w next Q :=
  op_buildSlice (ps := [(0, y)]) (vs := [.agg ⟨us⟩]) (cells := us) h hu hs hz rfl (by simp [evs, hy]) hlen hpos (by simp [Value.cells]) (by simp [Value.cells, hl]) hd k
/-- a field that is a struct or an array, out of a block whose cells stand in a row -/
theorem r_ldF (h : St n s a w E L) {t : TypeId} {x : Operand} {b o sz by_ : Nat} {dd : TypeDesc} (hx : ev E x = some (.pointer (some ⟨b, o, none⟩))) (hu : P.underlying t = some dd) (hf : TypeDesc.flat dd = false) (hs : tsz P t = some (sz, by_)) (i : Nat) {vs us : List Value} {T : TypeId} {fr : Nat × Nat}
    (hi : L[i]? = some (Blk b (.cells ⟨vs⟩ T fr))) (hv : (vs.drop o).take sz = us) (hl : us.length = sz) : (execOp a.eval ⟨dst, .load t x, ty, pos, aft, g⟩).run P w = .ok (.value (.agg ⟨us⟩)) w :=
  r_loadAgg h hx hu hf hs i hi hv hl
end
end Go.Sl
