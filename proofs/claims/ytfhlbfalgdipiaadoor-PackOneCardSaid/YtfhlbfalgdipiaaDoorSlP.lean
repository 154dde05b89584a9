/- A small library for walks, part P: elements by reckoned places, guards that are kept, arrays by value. No statement is proved here. -/
import Derived.Test.YtfhlbfalgdipiaaDoorSlO
import Derived.Laws.StructEq
set_option linter.unusedVariables false
set_option linter.unusedSimpArgs false
namespace Go.Sl

/-! ### Whole numbers that are none below 0, by their form -/
class NatOf (c : Int) (j : outParam Nat) where
instance natOf_cast (j : Nat) : NatOf (j : Int) j := ⟨⟩
instance natOf_0 : NatOf 0 0 := ⟨⟩
instance natOf_1 : NatOf 1 1 := ⟨⟩
instance natOf_2 : NatOf 2 2 := ⟨⟩
instance natOf_3 : NatOf 3 3 := ⟨⟩
instance natOf_4 : NatOf 4 4 := ⟨⟩
instance natOf_5 : NatOf 5 5 := ⟨⟩
instance natOf_6 : NatOf 6 6 := ⟨⟩
instance natOf_7 : NatOf 7 7 := ⟨⟩
instance natOf_8 : NatOf 8 8 := ⟨⟩
instance natOf_9 : NatOf 9 9 := ⟨⟩
instance natOf_10 : NatOf 10 10 := ⟨⟩
instance natOf_11 : NatOf 11 11 := ⟨⟩
instance natOf_12 : NatOf 12 12 := ⟨⟩
instance natOf_13 : NatOf 13 13 := ⟨⟩
instance natOf_14 : NatOf 14 14 := ⟨⟩
instance natOf_15 : NatOf 15 15 := ⟨⟩
instance natOf_16 : NatOf 16 16 := ⟨⟩
instance natOf_17 : NatOf 17 17 := ⟨⟩
instance natOf_18 : NatOf 18 18 := ⟨⟩
instance natOf_19 : NatOf 19 19 := ⟨⟩
instance natOf_20 : NatOf 20 20 := ⟨⟩
instance natOf_21 : NatOf 21 21 := ⟨⟩
instance natOf_22 : NatOf 22 22 := ⟨⟩
instance natOf_23 : NatOf 23 23 := ⟨⟩
instance natOf_24 : NatOf 24 24 := ⟨⟩
instance natOf_25 : NatOf 25 25 := ⟨⟩
instance natOf_26 : NatOf 26 26 := ⟨⟩
instance natOf_27 : NatOf 27 27 := ⟨⟩
instance natOf_28 : NatOf 28 28 := ⟨⟩
instance natOf_29 : NatOf 29 29 := ⟨⟩
instance natOf_30 : NatOf 30 30 := ⟨⟩
instance natOf_31 : NatOf 31 31 := ⟨⟩
instance natOf_32 : NatOf 32 32 := ⟨⟩
instance natOf_33 : NatOf 33 33 := ⟨⟩
instance natOf_34 : NatOf 34 34 := ⟨⟩
instance natOf_35 : NatOf 35 35 := ⟨⟩
instance natOf_36 : NatOf 36 36 := ⟨⟩
instance natOf_37 : NatOf 37 37 := ⟨⟩
instance natOf_38 : NatOf 38 38 := ⟨⟩
instance natOf_39 : NatOf 39 39 := ⟨⟩
instance natOf_40 : NatOf 40 40 := ⟨⟩
instance natOf_41 : NatOf 41 41 := ⟨⟩
instance natOf_42 : NatOf 42 42 := ⟨⟩
instance natOf_43 : NatOf 43 43 := ⟨⟩
instance natOf_44 : NatOf 44 44 := ⟨⟩
instance natOf_45 : NatOf 45 45 := ⟨⟩
instance natOf_46 : NatOf 46 46 := ⟨⟩
instance natOf_47 : NatOf 47 47 := ⟨⟩
instance natOf_48 : NatOf 48 48 := ⟨⟩
instance natOf_49 : NatOf 49 49 := ⟨⟩
instance natOf_50 : NatOf 50 50 := ⟨⟩
instance natOf_51 : NatOf 51 51 := ⟨⟩
instance natOf_52 : NatOf 52 52 := ⟨⟩
instance natOf_53 : NatOf 53 53 := ⟨⟩
instance natOf_54 : NatOf 54 54 := ⟨⟩
instance natOf_55 : NatOf 55 55 := ⟨⟩
instance natOf_56 : NatOf 56 56 := ⟨⟩
instance natOf_57 : NatOf 57 57 := ⟨⟩
instance natOf_58 : NatOf 58 58 := ⟨⟩
instance natOf_59 : NatOf 59 59 := ⟨⟩
instance natOf_60 : NatOf 60 60 := ⟨⟩
instance natOf_61 : NatOf 61 61 := ⟨⟩
instance natOf_62 : NatOf 62 62 := ⟨⟩
instance natOf_63 : NatOf 63 63 := ⟨⟩
instance natOf_64 : NatOf 64 64 := ⟨⟩
instance natOf_65 : NatOf 65 65 := ⟨⟩
instance natOf_66 : NatOf 66 66 := ⟨⟩
instance natOf_67 : NatOf 67 67 := ⟨⟩
instance natOf_68 : NatOf 68 68 := ⟨⟩
instance natOf_69 : NatOf 69 69 := ⟨⟩
instance natOf_96 : NatOf 96 96 := ⟨⟩
instance natOf_100 : NatOf 100 100 := ⟨⟩
instance natOf_120 : NatOf 120 120 := ⟨⟩
instance natOf_127 : NatOf 127 127 := ⟨⟩
instance natOf_128 : NatOf 128 128 := ⟨⟩
instance natOf_255 : NatOf 255 255 := ⟨⟩
instance natOf_256 : NatOf 256 256 := ⟨⟩
instance natOf_add (a b : Int) (i j : Nat) [NatOf a i] [NatOf b j] : NatOf (a + b) (i + j) := ⟨⟩
instance natOf_sub (a b : Int) (i j : Nat) [NatOf a i] [NatOf b j] : NatOf (a - b) (i - j) := ⟨⟩
instance natOf_mul (a b : Int) (i j : Nat) [NatOf a i] [NatOf b j] : NatOf (a * b) (i * j) := ⟨⟩
instance natOf_div (a b : Int) (i j : Nat) [NatOf a i] [NatOf b j] : NatOf (a / b) (i / j) := ⟨⟩
instance natOf_min (a b : Int) (i j : Nat) [NatOf a i] [NatOf b j] : NatOf (min a b) (min i j) := ⟨⟩
instance natOf_max (a b : Int) (i j : Nat) [NatOf a i] [NatOf b j] : NatOf (max a b) (max i j) := ⟨⟩
instance natOf_mod (a b : Int) (i j : Nat) [NatOf a i] [NatOf b j] : NatOf (a % b) (i % j) := ⟨⟩

/-! ### Elements of slices, by their place -/
/-- the place of a cell behind a slice's first one -/
def elP (v : Value) (k : Nat) : Value := match v with
  | .slice (some a) _ _ => .pointer (some ⟨a.block, a.off + k, none⟩)
  | _ => undef

theorem RDh.elP {size : Nat} {v : Value} {N : Nat} {xs : List Value} {h : HM} (r : RDh size v N xs h) (hN : 0 < N) : ∃ g o cap, v = .slice (some ⟨g, o, none⟩) N cap ∧ (∀ k, Sl.elP v k = .pointer (some ⟨g, o + k, none⟩)) ∧ ∃ cur e fr, h g = some (.cells cur e fr) ∧ (cur.toList.drop o).take (N * size) = xs := by
  obtain ⟨h1, A, cap, rfl, h2, h3, h4⟩ := r
  rcases h4 with h4 | ⟨g, o, cur, e, fr, rfl, h5, h6⟩
  · omega
  · exact ⟨g, o, cap, rfl, fun k => rfl, cur, e, fr, h5, h6⟩

section
variable {P : Program} {n : Nat} {s w : World} {a : Act} {E : List (Nat × Value)} {L : List HItem} {Q : Exit → Act → World → Prop} {next : Act → World → Prop}
variable {d : Nat} {dst : Option Nat} {ty : TypeId} {pos : String} {aft : Array Edge} {g : Option (Nat × Bool)}

theorem r_elP (h : St n s a w E L) {t el : TypeId} {x ix : Operand} {size N by_ : Nat} {v : Value} {xs : List Value} {k1 : IntKind} {c : Int} (hx : ev E x = some v) (hi : ev E ix = some (.int k1 c)) (hu : P.underlying t = some (.slice el)) (hs : tsz P el = some (size, by_))
    (hv : Views L size v N xs) {j : Nat} [NatOf c j] (hj : c = (j : Int)) (hlt : j < N) : (execOp a.eval ⟨dst, .indexAddr t x ix, ty, pos, aft, g⟩).run P w = .ok (.value (elP v (j * size))) w := by
  obtain ⟨b, o, cap, rfl, he, _⟩ := (hv _ h.2.2.2.2).elP (by omega)
  subst hj
  have h3 : ¬ N ≤ j := by omega
  rw [he]
  simp [execOp, h.1.ev hx, h.1.ev hi, Instr.indexAt, asIntOf, run_underlying hu, run_sizeOf hs, h3, hlt, Addr.add_none]

/-- a cell of a slice that is read -/
theorem r_elG (h : St n s a w E L) {t : TypeId} {x : Operand} {size N j : Nat} {v : Value} {xs : List Value} {dd : TypeDesc} (hx : ev E x = some (elP v j)) (hu : P.underlying t = some dd) (hf : TypeDesc.flat dd = true)
    (hv : Views L size v N xs) {u : Value} (hj : xs[j]? = some u) : (execOp a.eval ⟨dst, .load t x, ty, pos, aft, g⟩).run P w = .ok (.value u) w := by
  have hl := (hv _ h.2.2.2.2).1
  have hjl : j < xs.length := (List.getElem?_eq_some_iff.1 hj).1
  have hN : 0 < N := by
    rcases Nat.eq_zero_or_pos N with h0 | h0
    · subst h0; rw [Nat.zero_mul] at hl; omega
    · exact h0
  obtain ⟨b, o, cap, rfl, he, cur, e, fr, hc, hxs⟩ := (hv _ h.2.2.2.2).elP hN
  rw [he] at hx
  have hc' : w.heap[b]? = some (.cells cur e fr) := hc
  have hcell : w.cell? ⟨b, o + j, none⟩ = some u := by
    rw [← hxs, List.getElem?_take] at hj
    split at hj
    · rw [List.getElem?_drop] at hj
      simp only [World.cell?, hc']
      simpa using hj
    · cases hj
  simp [execOp, h.1.ev hx, Instr.loadAt, Instr.sureAddr, loadVar, run_isAgg hu, hf, hcell]
/-- a whole struct, or array, of a slice that is read -/
theorem r_elA (h : St n s a w E L) {t : TypeId} {x : Operand} {size N j sz by_ : Nat} {v : Value} {xs us : List Value} {dd : TypeDesc} (hx : ev E x = some (elP v j)) (hu : P.underlying t = some dd) (hf : TypeDesc.flat dd = false) (hs : tsz P t = some (sz, by_))
    (hv : Views L size v N xs) (hj : (xs.drop j).take sz = us) (hl : us.length = sz) (h0 : Nat.blt 0 sz = true) : (execOp a.eval ⟨dst, .load t x, ty, pos, aft, g⟩).run P w = .ok (.value (.agg us.toArray)) w := by
  have h0' : 0 < sz := Nat.le_of_ble_eq_true h0
  have hxl := (hv _ h.2.2.2.2).1
  have hjl : j < xs.length := by
    rw [← hj, List.length_take, List.length_drop] at hl; omega
  have hN : 0 < N := by
    rcases Nat.eq_zero_or_pos N with e0 | e0
    · subst e0; rw [Nat.zero_mul] at hxl; omega
    · exact e0
  obtain ⟨b, o, cap, rfl, he, cur, e, fr, hc, hxs⟩ := (hv _ h.2.2.2.2).elP hN
  rw [he] at hx
  have hc' : w.heap[b]? = some (.cells cur e fr) := hc
  have hcs : (loadCells ⟨b, o + j, none⟩ sz).run P w = .ok us.toArray w := by
    rw [← hl]
    refine run_loadCells_blk P w (fun i u hi => ?_)
    rw [← hj, List.getElem?_take] at hi
    split at hi
    · rw [List.getElem?_drop, ← hxs, List.getElem?_take] at hi
      split at hi
      · rw [List.getElem?_drop] at hi
        simp only [World.cell?, hc']
        simpa [Nat.add_assoc] using hi
      · cases hi
    · cases hi
  simp [execOp, h.1.ev hx, Instr.loadAt, Instr.sureAddr, loadVar, run_isAgg hu, hf, run_sizeOf hs, hcs]
/-- a field's place behind an element's -/
theorem r_elF (h : St n s a w E L) {t : TypeId} {x : Operand} {j i : Nat} {v : Value} {fs : Array Field} {f : Field} {sz by_ size N : Nat} {xs : List Value} (off : Nat) (hx : ev E x = some (elP v j)) (hu : P.underlying t = some (.struct fs)) (hf : fs[i]? = some f)
    (hs : tsz P f.type = some (sz, by_)) (hz : Nat.beq sz 0 = false) (ho : f.offset = off) (hv : Views L size v N xs) (hN : 0 < N) : (execOp a.eval ⟨dst, .fieldAddr t x i, ty, pos, aft, g⟩).run P w = .ok (.value (elP v (j + off))) w := by
  obtain ⟨b, o, cap, rfl, he, _⟩ := (hv _ h.2.2.2.2).elP hN
  rw [he] at hx
  rw [he, ← Nat.add_assoc]
  exact r_fieldAddr h off hx hu hf hs hz ho
/-- a byte, a number, a text of a slice -/
theorem r_elb (h : St n s a w E L) {t : TypeId} {x : Operand} {j : Nat} {v : Value} {l : List UInt8} {dd : TypeDesc} (hx : ev E x = some (elP v (j * 1))) (hu : P.underlying t = some dd) (hf : TypeDesc.flat dd = true)
    (hv : ViewsB L v l) (hj : j < l.length) : (execOp a.eval ⟨dst, .load t x, ty, pos, aft, g⟩).run P w = .ok (.value (bv (l.getD j 0))) w := by
  refine r_elG h hx hu hf hv ?_
  simp [bs, List.getD_eq_getElem?_getD, hj]
theorem r_el32 (h : St n s a w E L) {t : TypeId} {x : Operand} {j N : Nat} {v : Value} {l : List UInt32} {dd : TypeDesc} (hx : ev E x = some (elP v (j * 1))) (hu : P.underlying t = some dd) (hf : TypeDesc.flat dd = true)
    (hv : Views L 1 v N (l.map w32)) (hj : j < l.length) : (execOp a.eval ⟨dst, .load t x, ty, pos, aft, g⟩).run P w = .ok (.value (w32 (l.getD j 0))) w := by
  refine r_elG h hx hu hf hv ?_
  simp [List.getD_eq_getElem?_getD, hj]
theorem r_eli (h : St n s a w E L) {t : TypeId} {x : Operand} {j N : Nat} {v : Value} {l : List Int} {dd : TypeDesc} (hx : ev E x = some (elP v (j * 1))) (hu : P.underlying t = some dd) (hf : TypeDesc.flat dd = true)
    (hv : Views L 1 v N (ints l)) (hj : j < l.length) : (execOp a.eval ⟨dst, .load t x, ty, pos, aft, g⟩).run P w = .ok (.value (.int .i64 (l.getD j 0))) w := by
  refine r_elG h hx hu hf hv ?_
  simp [ints, List.getD_eq_getElem?_getD, hj]
theorem r_els (h : St n s a w E L) {t : TypeId} {x : Operand} {j N : Nat} {v : Value} {l : List (List UInt8)} {dd : TypeDesc} (hx : ev E x = some (elP v (j * 1))) (hu : P.underlying t = some dd) (hf : TypeDesc.flat dd = true)
    (hv : Views L 1 v N (svs l)) (hj : j < l.length) : (execOp a.eval ⟨dst, .load t x, ty, pos, aft, g⟩).run P w = .ok (.value (sv (l.getD j []))) w := by
  refine r_elG h hx hu hf hv ?_
  simp [svs, List.getD_eq_getElem?_getD, hj]

/-! ### Arrays: in a block, and by value -/
theorem r_arP (h : St n s a w E L) {t el : TypeId} {x ix : Operand} {b o : Nat} {N size by_ : Nat} {k1 : IntKind} {c : Int} (hx : ev E x = some (.pointer (some ⟨b, o, none⟩))) (hi : ev E ix = some (.int k1 c)) (hu : P.underlying t = some (.array N el)) (hs : tsz P el = some (size, by_))
    {j : Nat} [NatOf c j] (hj : c = (j : Int)) (hlt : j < N) : (execOp a.eval ⟨dst, .indexAddr t x ix, ty, pos, aft, g⟩).run P w = .ok (.value (.pointer (some ⟨b, o + j * size, none⟩))) w :=
  r_indexAddrA h hx hi hu hs j hj hlt
theorem r_ar32 (h : St n s a w E L) {t : TypeId} {x : Operand} {b j : Nat} {dd : TypeDesc} (hx : ev E x = some (.pointer (some ⟨b, 0 + j * 1, none⟩))) (hu : P.underlying t = some dd) (hf : TypeDesc.flat dd = true)
    (i : Nat) {l : List UInt32} {T : TypeId} {fr : Nat × Nat} (hi : L[i]? = some (Blk b (.cells (arr32 l) T fr))) (hj : j < l.length) : (execOp a.eval ⟨dst, .load t x, ty, pos, aft, g⟩).run P w = .ok (.value (w32 (l.getD j 0))) w :=
  r_load32 h hx hu hf i hi (by simp [List.getD_eq_getElem?_getD, hj])
theorem r_ar8 (h : St n s a w E L) {t : TypeId} {x : Operand} {b j : Nat} {dd : TypeDesc} (hx : ev E x = some (.pointer (some ⟨b, 0 + j * 1, none⟩))) (hu : P.underlying t = some dd) (hf : TypeDesc.flat dd = true)
    (i : Nat) {l : List UInt8} {T : TypeId} {fr : Nat × Nat} (hi : L[i]? = some (Blk b (.cells (arr8 l) T fr))) (hj : j < l.length) : (execOp a.eval ⟨dst, .load t x, ty, pos, aft, g⟩).run P w = .ok (.value (bv (l.getD j 0))) w :=
  r_load8 h hx hu hf i hi (by simp [List.getD_eq_getElem?_getD, hj])
theorem r_ix8 (h : St n s a w E L) {t el : TypeId} {x ix : Operand} {l : List UInt8} {N by_ : Nat} {k1 : IntKind} {c : Int} {dd : TypeDesc} (hx : ev E x = some (.agg (arr8 l))) (hi : ev E ix = some (.int k1 c)) (hu : P.underlying t = some (.array N el)) (he : P.underlying el = some dd) (hs : tsz P el = some (1, by_))
    (hf : TypeDesc.flat dd = true) {j : Nat} [NatOf c j] (hj : c = (j : Int)) (hlt : j < N) (hl : l.length = N) : (execOp a.eval ⟨dst, .index t x ix, ty, pos, aft, g⟩).run P w = .ok (.value (bv (l.getD j 0))) w := by
  refine r_indexA h hx hi hu he hs hf j hj hlt ?_
  have : j < l.length := by omega
  simp [arr8, List.getD_eq_getElem?_getD, this]
theorem r_ix32 (h : St n s a w E L) {t el : TypeId} {x ix : Operand} {l : List UInt32} {N by_ : Nat} {k1 : IntKind} {c : Int} {dd : TypeDesc} (hx : ev E x = some (.agg (arr32 l))) (hi : ev E ix = some (.int k1 c)) (hu : P.underlying t = some (.array N el)) (he : P.underlying el = some dd) (hs : tsz P el = some (1, by_))
    (hf : TypeDesc.flat dd = true) {j : Nat} [NatOf c j] (hj : c = (j : Int)) (hlt : j < N) (hl : l.length = N) : (execOp a.eval ⟨dst, .index t x ix, ty, pos, aft, g⟩).run P w = .ok (.value (w32 (l.getD j 0))) w := by
  refine r_indexA h hx hi hu he hs hf j hj hlt ?_
  have : j < l.length := by omega
  simp [arr32, List.getD_eq_getElem?_getD, this]
theorem r_ixT (h : St n s a w E L) {t : TypeId} {x ix : Operand} {l : List UInt8} {k1 : IntKind} {c : Int} (hx : ev E x = some (.string ⟨⟨l⟩⟩)) (hi : ev E ix = some (.int k1 c)) (hu : P.underlying t = some .string) {j : Nat} [NatOf c j] (hj : c = (j : Int)) (hlt : j < l.length) :
    (execOp a.eval ⟨dst, .index t x ix, ty, pos, aft, g⟩).run P w = .ok (.value (bv (l.getD j 0))) w :=
  r_indexT h hx hi hu j hj (by simp [List.getD_eq_getElem?_getD, hlt])

/-! ### A block of which the cells stand in a row -/
def nth : List Value → Nat → Option Value
  | [], _ => none
  | v :: _, 0 => some v
  | _ :: vs, i + 1 => nth vs i
theorem nth_eq : ∀ (vs : List Value) (i : Nat), nth vs i = vs[i]?
  | [], _ => rfl
  | v :: _, 0 => rfl
  | _ :: vs, i + 1 => by simp [nth, nth_eq vs i]
theorem r_ldN (h : St n s a w E L) {t : TypeId} {x : Operand} {b o : Nat} {dd : TypeDesc} (hx : ev E x = some (.pointer (some ⟨b, o, none⟩))) (hu : P.underlying t = some dd) (hf : TypeDesc.flat dd = true)
    (i : Nat) {vs : List Value} {T : TypeId} {fr : Nat × Nat} (hi : L[i]? = some (Blk b (.cells ⟨vs⟩ T fr))) {v : Value} (hv : nth vs o = some v) : (execOp a.eval ⟨dst, .load t x, ty, pos, aft, g⟩).run P w = .ok (.value v) w :=
  r_load h hx hu hf i hi (by rw [nth_eq] at hv; simpa using hv)

/-! ### Guards that are kept: what is guarded stands as it is, if it is wanted -/
def gval (g : Bool) (v : Value) : Value := bif g then v else undef
theorem gval_on {g : Bool} (hg : g = true) (v : Value) : gval g v = v := by subst hg; rfl
theorem gval_and {g : Bool} (hg : g = true) (b : Bool) (v : Value) : gval (g && b) v = gval b v := by subst hg; rfl
def lkOp (ops : Array Oper) (E : List (Nat × Value)) (j : Nat) : Option Value := match ops[j]? with
  | some o => match o.dst with
    | some t => lk E t
    | none => none
  | none => none
theorem lkOp_yielded (hE : Env n a E) {ops : Array Oper} {j : Nat} {v : Value} (h : lkOp ops E j = some v) : yielded ops a.tmps j = (match v with | .bool b => some b | _ => none) := by
  unfold lkOp at h
  split at h
  · rename_i o ho
    split at h
    · rename_i t ht
      have := hE.2.2 t _ h
      simp only [yielded, ho, ht, Option.bind_some, this]
      cases v <;> rfl
    · cases h
  · cases h
inductive Wants (ops : Array Oper) (E : List (Nat × Value)) (j : Nat) : Bool → Bool → Prop where
  | t {x : Bool} : lkOp ops E j = some (.bool x) → Wants ops E j true x
  | f {x : Bool} : lkOp ops E j = some (.bool x) → Wants ops E j false (!x)
  | gt {g x : Bool} : lkOp ops E j = some (gval g (.bool x)) → Wants ops E j true (g && x)
  | gf {g x : Bool} : lkOp ops E j = some (gval g (.bool x)) → Wants ops E j false (g && !x)
theorem Wants.wanted (hE : Env n a E) {ops : Array Oper} {j : Nat} {b g : Bool} (h : Wants ops E j b g) : (yielded ops a.tmps j == some b) = g := by
  cases h with
  | t h => rw [lkOp_yielded hE h]; cases g <;> rfl
  | f h => rename_i x; rw [lkOp_yielded hE h]; cases x <;> rfl
  | gt h => rename_i q x; rw [lkOp_yielded hE h]; cases q <;> cases x <;> rfl
  | gf h => rename_i q x; rw [lkOp_yielded hE h]; cases q <;> cases x <;> rfl
theorem wvG {ops : Array Oper} {rest : List Oper} {op : Op} {v : Value} (h : St n s a w E L) {j : Nat} {b g : Bool} (hg : Wants ops E j b g) (hr : g = true → (execOp a.eval (Oper.mk (some d) op ty pos aft (some (j, b)))).run P w = .ok (.value v) w) (hd : Nat.blt d n = true)
    (k : ∀ a w, St n s a w ((d, gval g v) :: E) L → wpList P ops Q rest a w) : wpList P ops Q (Oper.mk (some d) op ty pos aft (some (j, b)) :: rest) a w := by
  have hw := hg.wanted h.1
  cases g with
  | true =>
    unfold wpList
    rw [if_pos (by simp [Region.wanted, hw])]
    exact .inl (op_run h (hr rfl) hd h.2 k)
  | false =>
    unfold wpList
    rw [if_neg (by simp [Region.wanted, hw])]
    exact k _ _ ⟨h.1.put hd _, h.2⟩
theorem qvG {QQ : Act → Prop} {ops : Array Oper} {rest : List Oper} {op : Op} {v : Value} (hE : Env n a E) {j : Nat} {b g : Bool} (hg : Wants ops E j b g) (hr : g = true → ∀ w, Sat s w L → (execOp a.eval (Oper.mk (some d) op ty pos aft (some (j, b)))).run P w = .ok (.value v) w) (hd : Nat.blt d n = true)
    (k : ∀ a, Env n a ((d, gval g v) :: E) → wpQuiet P ops (fun w => Sat s w L) QQ rest a) : wpQuiet P ops (fun w => Sat s w L) QQ (Oper.mk (some d) op ty pos aft (some (j, b)) :: rest) a := by
  have hw := hg.wanted hE
  cases g with
  | true =>
    unfold wpQuiet
    rw [if_pos (by simp [Region.wanted, hw])]
    refine ⟨v, fun w hw => ?_, k _ (hE.put hd v)⟩
    unfold Oper.quietAt
    rw [hr rfl w hw]
    exact ⟨rfl, rfl⟩
  | false =>
    unfold wpQuiet
    rw [if_neg (by simp [Region.wanted, hw])]
    exact k _ (hE.put hd _)
/-- a quiet call that is guarded -/
theorem q_callG {QQ : Act → Prop} {ops : Array Oper} {rest : List Oper} {v : Value} (hE : Env n a E) {j : Nat} {b gg : Bool} (hg : Wants ops E j b gg) {f : FuncId} {xs : List Operand} {ats : Array TypeId} (hf : isGo P f = true)
    (hc : gg = true → ∃ vs, evs E xs = some vs ∧ ∀ w, Sat s w L → Calls P f vs.toArray w (fun e w' => e = .returned v ∧ Sat s w' L)) (hd : Nat.blt d n = true)
    (k : ∀ a, Env n a ((d, gval gg v) :: E) → wpQuiet P ops (fun w => Sat s w L) QQ rest a) : wpQuiet P ops (fun w => Sat s w L) QQ (Oper.mk (some d) (.call { callee := .value (.func f), args := xs.toArray, argTypes := ats }) ty pos aft (some (j, b)) :: rest) a := by
  have hw := hg.wanted hE
  cases gg with
  | true =>
    obtain ⟨vs, hx, hc⟩ := hc rfl
    unfold wpQuiet
    rw [if_pos (by simp [Region.wanted, hw])]
    refine ⟨v, fun w hw => ?_, k _ (hE.put hd v)⟩
    have he : (execOp a.eval (Oper.mk (some d) (.call { callee := .value (.func f), args := xs.toArray, argTypes := ats }) ty pos aft (some (j, b)))).run P w = .ok (.enter f vs.toArray) w := by
      have : execOp a.eval (Oper.mk (some d) (.call { callee := .value (.func f), args := xs.toArray, argTypes := ats }) ty pos aft (some (j, b))) = callFunc f (#[] ++ xs.toArray.map a.eval ++ #[]) := rfl
      rw [this, run_callFunc_go hf]
      simp [hE.evs hx]
    unfold Oper.quietAt
    rw [he]
    exact ⟨rfl, hc w hw⟩
  | false =>
    unfold wpQuiet
    rw [if_neg (by simp [Region.wanted, hw])]
    exact k _ (hE.put hd _)
theorem r_pickA (h : St n s a w E L) {c x y : Operand} {gg b : Bool} (hc : ev E c = some (.bool gg)) (hx : ev E x = some (gval gg (.bool b))) (hy : ev E y = some (.bool false)) : (execOp a.eval ⟨dst, .pick c x y, ty, pos, aft, g⟩).run P w = .ok (.value (.bool (gg && b))) w := by
  cases gg <;> simp [execOp, h.1.ev hc, h.1.ev hx, h.1.ev hy, asBool, gval]
theorem r_pickO (h : St n s a w E L) {c x y : Operand} {gg b : Bool} (hc : ev E c = some (.bool gg)) (hx : ev E x = some (.bool true)) (hy : ev E y = some (gval (!gg) (.bool b))) : (execOp a.eval ⟨dst, .pick c x y, ty, pos, aft, g⟩).run P w = .ok (.value (.bool (gg || b))) w := by
  cases gg <;> simp [execOp, h.1.ev hc, h.1.ev hx, h.1.ev hy, asBool, gval]

/-! ### Arrays of numbers, compared -/
theorem eqIn_arr {t el : TypeId} {N by_ : Nat} {k : IntKind} (hu : P.underlying t = some (.array N el)) (he : P.underlying el = some (.int k)) (hs : tsz P el = some (1, by_)) (xs ys : List Int) (h1 : xs.length = N) (h2 : ys.length = N) (dd : Nat) (w : World)
    (hin : ∀ a b w, (Op.equalIn dd el (.int k a) (.int k b)).run P w = .ok (a == b) w) :
    (Op.equalIn (dd + 1) t (.agg (xs.map (Value.int k)).toArray) (.agg (ys.map (Value.int k)).toArray)).run P w = .ok (decide (xs = ys)) w := by
  have part1 : ∀ (zs : List Int) (i : Nat), i < zs.length → (part el (zs.map (Value.int k)).toArray (i * 1)).run P w = .ok (.int k (zs.getD i 0)) w := by
    intro zs i hi
    simp [part, run_isAgg he, TypeDesc.flat, hi, List.getD_eq_getElem?_getD]
  simp only [Op.equalIn, Sem.run_bind, run_underlying hu, Result.andThen_ok, run_sizeOf hs]
  simp only [Std.Legacy.Range.forIn_eq_forIn_range', Std.Legacy.Range.size]
  have key : ∀ (m i : Nat), i + m = N → (xs.take i = ys.take i) →
      (forIn (List.range' i m) ((none : Option Bool), ()) fun (i : Nat) (_ : Option Bool × Unit) => (do
        let a ← part el (xs.map (Value.int k)).toArray (i * 1)
        let b ← part el (ys.map (Value.int k)).toArray (i * 1)
        let r ← Op.equalIn dd el a b
        if (!r) = true then pure (ForInStep.done (some false, ())) else pure (ForInStep.yield (none, ())) : Sem (ForInStep (Option Bool × Unit)))).run P w = .ok (if xs = ys then none else some false, ()) w := by
    intro m
    induction m with
    | zero =>
      intro i hi ht
      have : xs = ys := by
        rw [List.take_of_length_le (by omega), List.take_of_length_le (by omega)] at ht
        exact ht
      simp [this]
    | succ m ih =>
      intro i hi ht
      have ex : xs[i]? = some (xs.getD i 0) := by rw [List.getD_eq_getElem?_getD, List.getElem?_eq_getElem (by omega)]; rfl
      have ey : ys[i]? = some (ys.getD i 0) := by rw [List.getD_eq_getElem?_getD, List.getElem?_eq_getElem (by omega)]; rfl
      rw [List.range'_succ, List.forIn_cons]
      simp only [Sem.run_bind, part1 xs i (by omega), part1 ys i (by omega), Result.andThen_ok, hin]
      by_cases e : xs.getD i 0 = ys.getD i 0
      · rw [e]
        simp only [BEq.rfl, Bool.not_true, Bool.false_eq_true, if_false, Sem.run_pure, Result.andThen_ok]
        refine ih (i + 1) (by omega) ?_
        rw [List.take_add_one, List.take_add_one, ht, ex, ey, e]
      · have hne : xs ≠ ys := fun hh => e (by rw [hh])
        have hb : (xs.getD i 0 == ys.getD i 0) = false := by simpa using e
        simp only [hb, Bool.not_false, if_true, Sem.run_pure, Result.andThen_ok, if_neg hne]
  have h0 := key N 0 (by omega) (by simp)
  rw [show (N - 0 + 1 - 1) / 1 = N by omega, h0]
  by_cases e : xs = ys <;> simp [e]
theorem bytes_ints (l : List UInt8) : bs l = (l.map fun x => (x.toNat : Int)).map (Value.int .u8) := by simp [bs, bv]
theorem map_inj_of {α β : Type} {f : α → β} (hf : ∀ a b, f a = f b → a = b) : ∀ (l m : List α), l.map f = m.map f → l = m
  | [], [], _ => rfl
  | [], _ :: _, h => by simp at h
  | _ :: _, [], h => by simp at h
  | x :: l, y :: m, h => by
    simp only [List.map_cons, List.cons.injEq] at h
    rw [hf _ _ h.1, map_inj_of hf l m h.2]
theorem bytes_inj {l m : List UInt8} : (l.map fun x => (x.toNat : Int)) = (m.map fun x => (x.toNat : Int)) ↔ l = m :=
  ⟨map_inj_of (fun a b hab => UInt8.toNat_inj.1 (by omega)) l m, fun h => by rw [h]⟩
theorem equal_arr8 {t el : TypeId} {N by_ : Nat} (hu : P.underlying t = some (.array N el)) (he : P.underlying el = some (.int .u8)) (hs : tsz P el = some (1, by_)) {l m : List UInt8} (h1 : l.length = N) (h2 : m.length = N) (w : World) :
    (Op.equal t (.agg (arr8 l)) (.agg (arr8 m))).run P w = .ok (decide (l = m)) w := by
  have := eqIn_arr hu he hs (l.map fun x => (x.toNat : Int)) (m.map fun x => (x.toNat : Int)) (by simpa using h1) (by simpa using h2) 9999 w (fun a b w => run_equalIn_int w 9998 el .u8 .u8 a b he)
  rw [← bytes_ints, ← bytes_ints] at this
  rw [show decide (l = m) = decide ((l.map fun x => (x.toNat : Int)) = (m.map fun x => (x.toNat : Int))) from decide_eq_decide.2 bytes_inj.symm]
  exact this
theorem r_arreq (h : St n s a w E L) {xt yt el : TypeId} {N by_ : Nat} {x y : Operand} {l m : List UInt8} (hx : ev E x = some (.agg (arr8 l))) (hy : ev E y = some (.agg (arr8 m))) (hu : P.underlying xt = some (.array N el)) (he : P.underlying el = some (.int .u8)) (hs : tsz P el = some (1, by_))
    (hm : P.eqGuardType P.depth xt = false) (h1 : l.length = N) (h2 : m.length = N) : (execOp a.eval ⟨dst, .binOp .eql xt x y yt, ty, pos, aft, g⟩).run P w = .ok (.value (.bool (decide (l = m)))) w := by
  refine r_binv h hx hy (fun w => ⟨run_eqGuard_agg w _ _ _ _ _ _ hm, ?_⟩)
  show ((Op.equal xt (.agg (arr8 l)) (.agg (arr8 m)) >>= fun r => pure (Value.bool r)).run P w) = _
  rw [Sem.run_bind, equal_arr8 hu he hs h1 h2]
  rfl
theorem r_arrne (h : St n s a w E L) {xt yt el : TypeId} {N by_ : Nat} {x y : Operand} {l m : List UInt8} (hx : ev E x = some (.agg (arr8 l))) (hy : ev E y = some (.agg (arr8 m))) (hu : P.underlying xt = some (.array N el)) (he : P.underlying el = some (.int .u8)) (hs : tsz P el = some (1, by_))
    (hm : P.eqGuardType P.depth xt = false) (h1 : l.length = N) (h2 : m.length = N) : (execOp a.eval ⟨dst, .binOp .neq xt x y yt, ty, pos, aft, g⟩).run P w = .ok (.value (.bool (decide (l ≠ m)))) w := by
  refine r_binv h hx hy (fun w => ⟨run_eqGuard_agg w _ _ _ _ _ _ hm, ?_⟩)
  show ((Op.equal xt (.agg (arr8 l)) (.agg (arr8 m)) >>= fun r => pure (Value.bool (!r))).run P w) = _
  rw [Sem.run_bind, equal_arr8 hu he hs h1 h2]
  have : (!decide (l = m)) = decide (l ≠ m) := by by_cases e : l = m <;> simp [e]
  rw [← this]; rfl
end
end Go.Sl
