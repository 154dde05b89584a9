/- A small library for walks, part D: plain operations. No statement is proved here. -/
import Derived.Test.YtfhlbfalgdipiaaDoorSlC
set_option linter.unusedVariables false
set_option linter.unusedSimpArgs false
namespace Go.Sl

/-- a type's cells and bytes -/
def tsz (P : Program) (t : TypeId) : Option (Nat × Nat) := (P.info? t).map fun i => (i.size, i.bytes)
def tzero (P : Program) (t : TypeId) : Option Value := (P.info? t).bind (·.zero)

theorem tsz_some {P : Program} {t : TypeId} {a b : Nat} (h : tsz P t = some (a, b)) : ∃ i, P.info? t = some i ∧ i.size = a ∧ i.bytes = b := by
  unfold tsz at h
  cases e : P.info? t with
  | none => rw [e] at h; cases h
  | some i => rw [e] at h; simp at h; exact ⟨i, rfl, h.1, h.2⟩

theorem run_sizeOf {P : Program} {t : TypeId} {a b : Nat} (h : tsz P t = some (a, b)) (w : World) : (sizeOf t).run P w = .ok a w := by
  obtain ⟨i, hi, rfl, rfl⟩ := tsz_some h
  simp [sizeOf, typeInfo, hi]
theorem run_zeroValue {P : Program} {t : TypeId} {z : Value} (h : tzero P t = some z) (w : World) : (zeroValue t).run P w = .ok z w := by
  unfold tzero at h
  cases e : P.info? t with
  | none => rw [e] at h; cases h
  | some i => rw [e] at h; simp at h; simp [zeroValue, typeInfo, e, h]

/-- is a type's value one cell? -/
def TypeDesc.flat : TypeDesc → Bool
  | .struct _ | .array _ _ => false
  | _ => true

theorem run_isAgg {P : Program} {t : TypeId} {d : TypeDesc} (hu : P.underlying t = some d) (w : World) : (isAgg t).run P w = .ok (!TypeDesc.flat d) w := by
  cases d <;> simp [isAgg, run_underlying hu, TypeDesc.flat]

/-! ### Operations -/
section
variable {P : Program} {n : Nat} {s w : World} {a : Act} {E : List (Nat × Value)} {L : List HItem} {ops rest : _} {Q : Exit → Act → World → Prop} {next : Act → World → Prop}
variable {d : Nat} {dst : Option Nat} {ty : TypeId} {pos : String} {aft : Array Edge} {g : Option (Nat × Bool)}

theorem wl {o : Oper} {ops : Array Oper} {rest : List Oper} (hg : o.guard = none) (h : o.wp P a w (wpList P ops Q rest) Q) : wpList P ops Q (o :: rest) a w := by
  unfold wpList
  rw [if_pos (by simp [Region.wanted, hg])]
  exact .inl h
theorem wnil {ops : Array Oper} (h : Q .normal a w) : wpList P ops Q [] a w := h

theorem op_run (h : St n s a w E L) {op : Op} {v : Value} {w' : World} {L' : List HItem} (hr : (execOp a.eval ⟨some d, op, ty, pos, aft, g⟩).run P w = .ok (.value v) w')
    (hd : Nat.blt d n = true) (hw : Sat s w' L') (k : ∀ a w, St n s a w ((d, v) :: E) L' → next a w) : (Oper.mk (some d) op ty pos aft g).wp P a w next Q := by
  unfold Oper.wp
  rw [hr]
  exact k _ _ ⟨h.1.put hd v, hw⟩

theorem op_run0 (h : St n s a w E L) {op : Op} {v : Value} {w' : World} {L' : List HItem} (hr : (execOp a.eval ⟨none, op, ty, pos, aft, g⟩).run P w = .ok (.value v) w')
    (hw : Sat s w' L') (k : ∀ a w, St n s a w E L' → next a w) : (Oper.mk none op ty pos aft g).wp P a w next Q := by
  unfold Oper.wp
  rw [hr]
  exact k _ _ ⟨h.1, hw⟩

theorem op_run_skip (h : St n s a w E L) {op : Op} {w' : World} {L' : List HItem} (hr : (execOp a.eval ⟨none, op, ty, pos, aft, g⟩).run P w = .ok .skip w')
    (hw : Sat s w' L') (k : ∀ a w, St n s a w E L' → next a w) : (Oper.mk none op ty pos aft g).wp P a w next Q := by
  unfold Oper.wp
  rw [hr]
  exact k _ _ ⟨h.1, hw⟩

theorem r_move (h : St n s a w E L) {x : Operand} {v : Value} (hx : ev E x = some v) : (execOp a.eval ⟨dst, .move x, ty, pos, aft, g⟩).run P w = .ok (.value (v)) w := by simp [execOp, h.1.ev hx]

theorem r_assign (h : St n s a w E L) {x : Operand} {v : Value} (hx : ev E x = some v) : (execOp a.eval ⟨dst, .assign x, ty, pos, aft, g⟩).run P w = .ok (.value (v)) w := by simp [execOp, h.1.ev hx]

theorem r_pick (h : St n s a w E L) {c x y : Operand} {b : Bool} {v u : Value} (hc : ev E c = some (.bool b)) (hx : ev E x = some v) (hy : ev E y = some u) : (execOp a.eval ⟨dst, .pick c x y, ty, pos, aft, g⟩).run P w = .ok (.value (if b then v else u)) w := by simp only [execOp, h.1.ev hc, h.1.ev hx, h.1.ev hy, asBool, Sem.run_bind, Sem.run_pure, Result.andThen_ok]

theorem r_pick_true (h : St n s a w E L) {c x y : Operand} {v : Value} (hc : ev E c = some (.bool true)) (hx : ev E x = some v) : (execOp a.eval ⟨dst, .pick c x y, ty, pos, aft, g⟩).run P w = .ok (.value (v)) w := by simp [execOp, h.1.ev hc, h.1.ev hx, asBool]

theorem r_pick_false (h : St n s a w E L) {c x y : Operand} {v : Value} (hc : ev E c = some (.bool false)) (hx : ev E y = some v) : (execOp a.eval ⟨dst, .pick c x y, ty, pos, aft, g⟩).run P w = .ok (.value (v)) w := by simp [execOp, h.1.ev hc, h.1.ev hx, asBool]

theorem r_bin (h : St n s a w E L) {op : BinOp} {xt yt : TypeId} {x y : Operand} {k1 k2 : IntKind} {p q : Int} {v : Value} (hx : ev E x = some (.int k1 p)) (hy : ev E y = some (.int k2 q))
    (hr : BinR op k1 p k2 q v) : (execOp a.eval ⟨dst, .binOp op xt x y yt, ty, pos, aft, g⟩).run P w = .ok (.value (v)) w := by
  have hg : (eqGuard op xt x y (Value.int k1 p) (Value.int k2 q)).run P w = .ok () w := by
    unfold eqGuard; split <;> rfl
  simp [execOp, h.1.ev hx, h.1.ev hy, hg, hr P xt w]


/-- bools, texts, pointers: by a run of its own -/
theorem r_binv (h : St n s a w E L) {op : BinOp} {xt yt : TypeId} {x y : Operand} {p q : Value} {v : Value} (hx : ev E x = some p) (hy : ev E y = some q)
    (hr : ∀ w, (eqGuard op xt x y p q).run P w = .ok () w ∧ (binOp op xt p q).run P w = .ok v w) : (execOp a.eval ⟨dst, .binOp op xt x y yt, ty, pos, aft, g⟩).run P w = .ok (.value (v)) w := by
  simp [execOp, h.1.ev hx, h.1.ev hy, (hr w).1, (hr w).2]


theorem toList_ba (l : List UInt8) : (⟨⟨l⟩⟩ : ByteArray).toList = l := by
  simp [ByteArray.toList_eq]
theorem r_streq (h : St n s a w E L) {xt yt : TypeId} {x y : Operand} {l m : List UInt8} (hx : ev E x = some (.string ⟨⟨l⟩⟩)) (hy : ev E y = some (.string ⟨⟨m⟩⟩))
    : (execOp a.eval ⟨dst, .binOp .eql xt x y yt, ty, pos, aft, g⟩).run P w = .ok (.value (.bool (decide (l = m)))) w := by
  refine r_binv h hx hy (fun w => ⟨?_, ?_⟩)
  · simp [eqGuard]
  · simp only [binOp, Op.stringOp, toList_ba, Sem.run_pure]
    congr 2
    rw [Bool.eq_iff_iff]; simp

theorem r_strne (h : St n s a w E L) {xt yt : TypeId} {x y : Operand} {l m : List UInt8} (hx : ev E x = some (.string ⟨⟨l⟩⟩)) (hy : ev E y = some (.string ⟨⟨m⟩⟩))
    : (execOp a.eval ⟨dst, .binOp .neq xt x y yt, ty, pos, aft, g⟩).run P w = .ok (.value (.bool (decide (l ≠ m)))) w := by
  refine r_binv h hx hy (fun w => ⟨?_, ?_⟩)
  · simp [eqGuard]
  · simp only [binOp, Op.stringOp, toList_ba, Sem.run_pure]
    congr 2
    rw [Bool.eq_iff_iff]; simp

theorem r_strless (h : St n s a w E L) {xt yt : TypeId} {x y : Operand} {l m : List UInt8} (hx : ev E x = some (.string ⟨⟨l⟩⟩)) (hy : ev E y = some (.string ⟨⟨m⟩⟩))
    : (execOp a.eval ⟨dst, .binOp .lss xt x y yt, ty, pos, aft, g⟩).run P w = .ok (.value (.bool (Op.bytesLess l m))) w := by
  refine r_binv h hx hy (fun w => ⟨?_, ?_⟩)
  · simp [eqGuard]
  · simp only [binOp, Op.stringOp, toList_ba, Sem.run_pure]

theorem r_strcat (h : St n s a w E L) {xt yt : TypeId} {x y : Operand} {l m : List UInt8} (hx : ev E x = some (.string ⟨⟨l⟩⟩)) (hy : ev E y = some (.string ⟨⟨m⟩⟩))
    (hl : (l.length : Int) + m.length ≤ 9223372036854775807)
    : (execOp a.eval ⟨dst, .binOp .add xt x y yt, ty, pos, aft, g⟩).run P w = .ok (.value (.string ⟨⟨l ++ m⟩⟩)) w := by
  refine r_binv h hx hy (fun w => ⟨?_, ?_⟩)
  · simp [eqGuard]
  · have e1 : (⟨⟨l⟩⟩ : ByteArray).size = l.length := rfl
    have e2 : (⟨⟨m⟩⟩ : ByteArray).size = m.length := rfl
    have e3 : IntKind.i64.max = 9223372036854775807 := by decide
    have e : (⟨⟨l⟩⟩ : ByteArray) ++ ⟨⟨m⟩⟩ = ⟨⟨l ++ m⟩⟩ := by
      apply ByteArray.ext; simp
    simp only [binOp, Op.stringOp, e1, e2, e3, e]
    rw [if_neg (by push_cast; omega)]
    rfl

theorem eqIn_bool (P : Program) {t : TypeId} (hu : P.underlying t = some .bool) (l m : Bool) (dd : Nat) (w : World) : (Op.equalIn (dd + 1) t (.bool l) (.bool m)).run P w = .ok (l == m) w := by
  simp [Op.equalIn, run_underlying hu]
theorem eqIn_ptr_nil (P : Program) {t e : TypeId} (hu : P.underlying t = some (.pointer e)) (p : Option Addr) (dd : Nat) (w : World) : (Op.equalIn (dd + 1) t (.pointer p) (.pointer none)).run P w = .ok p.isNone w := by
  cases p <;> simp [Op.equalIn, run_underlying hu]
theorem equal_run {P : Program} {t : TypeId} {x y : Value} {b : Bool} {w : World} (h : ∀ dd, (Op.equalIn (dd + 1) t x y).run P w = .ok b w) : (Op.equal t x y).run P w = .ok b w := h 9999
theorem r_booleq (h : St n s a w E L) {xt yt : TypeId} {x y : Operand} {l m : Bool} (hu : P.underlying xt = some .bool) (hx : ev E x = some (.bool l)) (hy : ev E y = some (.bool m))
    : (execOp a.eval ⟨dst, .binOp .eql xt x y yt, ty, pos, aft, g⟩).run P w = .ok (.value (.bool (l == m))) w := by
  refine r_binv h hx hy (fun w => ⟨by simp [eqGuard], ?_⟩)
  show ((Op.equal xt (.bool l) (.bool m) >>= fun r => pure (Value.bool r)).run P w) = _
  rw [Sem.run_bind, equal_run (fun dd => eqIn_bool P hu l m dd w)]
  rfl

theorem r_boolne (h : St n s a w E L) {xt yt : TypeId} {x y : Operand} {l m : Bool} (hu : P.underlying xt = some .bool) (hx : ev E x = some (.bool l)) (hy : ev E y = some (.bool m))
    : (execOp a.eval ⟨dst, .binOp .neq xt x y yt, ty, pos, aft, g⟩).run P w = .ok (.value (.bool (l != m))) w := by
  refine r_binv h hx hy (fun w => ⟨by simp [eqGuard], ?_⟩)
  show ((Op.equal xt (.bool l) (.bool m) >>= fun r => pure (Value.bool (!r))).run P w) = _
  rw [Sem.run_bind, equal_run (fun dd => eqIn_bool P hu l m dd w)]
  rfl

theorem r_ptreq_nil (h : St n s a w E L) {xt yt e : TypeId} {x y : Operand} {p : Option Addr} (hu : P.underlying xt = some (.pointer e)) (hx : ev E x = some (.pointer p)) (hy : ev E y = some (.pointer none))
    : (execOp a.eval ⟨dst, .binOp .eql xt x y yt, ty, pos, aft, g⟩).run P w = .ok (.value (.bool p.isNone)) w := by
  refine r_binv h hx hy (fun w => ⟨by simp [eqGuard], ?_⟩)
  show ((Op.equal xt (.pointer p) (.pointer none) >>= fun r => pure (Value.bool r)).run P w) = _
  rw [Sem.run_bind, equal_run (fun dd => eqIn_ptr_nil P hu p dd w)]
  rfl

theorem r_ptrne_nil (h : St n s a w E L) {xt yt e : TypeId} {x y : Operand} {p : Option Addr} (hu : P.underlying xt = some (.pointer e)) (hx : ev E x = some (.pointer p)) (hy : ev E y = some (.pointer none))
    : (execOp a.eval ⟨dst, .binOp .neq xt x y yt, ty, pos, aft, g⟩).run P w = .ok (.value (.bool p.isSome)) w := by
  refine r_binv h hx hy (fun w => ⟨by simp [eqGuard], ?_⟩)
  show ((Op.equal xt (.pointer p) (.pointer none) >>= fun r => pure (Value.bool (!r))).run P w) = _
  rw [Sem.run_bind, equal_run (fun dd => eqIn_ptr_nil P hu p dd w)]
  cases p <;> rfl


theorem r_not (h : St n s a w E L) {xt : TypeId} {x : Operand} {b : Bool} (hx : ev E x = some (.bool b)) : (execOp a.eval ⟨dst, .unOp .not xt x, ty, pos, aft, g⟩).run P w = .ok (.value (.bool (!b))) w := by simp [execOp, h.1.ev hx, Op.unary]

theorem r_compl32 (h : St n s a w E L) {xt : TypeId} {x : Operand} {b : UInt32} (hx : ev E x = some (.int .u32 b.toNat)) : (execOp a.eval ⟨dst, .unOp .xor xt x, ty, pos, aft, g⟩).run P w = .ok (.value (w32 (~~~b))) w := by
  have hm : IntKind.u32.max = ((4294967295 : UInt32).toNat : Int) := by decide
  have hr := B.xor_u32 (x := 4294967295) (y := b) P xt w
  simp only [binOp, ne_eq, not_true_eq_false, if_false] at hr
  have e : (4294967295 : UInt32) ^^^ b = ~~~b := by
    apply UInt32.eq_of_toBitVec_eq
    simp only [UInt32.toBitVec_xor, UInt32.toBitVec_not]
    show BitVec.allOnes 32 ^^^ b.toBitVec = _
    rw [BitVec.allOnes_xor]
  rw [e] at hr
  simp only [execOp, h.1.ev hx, Op.unary, IntKind.signed, Bool.false_eq_true, if_false, hm, Sem.run_bind, hr, Result.andThen_ok, Sem.run_pure]

theorem r_neg (h : St n s a w E L) {xt : TypeId} {x : Operand} {p : Int} (hx : ev E x = some (.int .i64 p)) (h1 : -9223372036854775808 ≤ -p) (h2 : -p ≤ 9223372036854775807) : (execOp a.eval ⟨dst, .unOp .neg xt x, ty, pos, aft, g⟩).run P w = .ok (.value (.int .i64 (-p))) w := by simp [execOp, h.1.ev hx, Op.unary, Op.intArith, wrap_i64 _ h1 h2]

/-- a whole number as one of another kind -/
theorem r_conv (h : St n s a w E L) {t u : TypeId} {x : Operand} {k1 k2 : IntKind} {p : Int} {v : Value} {dd : TypeDesc} (hx : ev E x = some (.int k1 p)) (ht : P.underlying t = some dd) (hu : P.underlying u = some (.int k2))
    (hv : Value.int k2 (k2.wrap p) = v) : (execOp a.eval ⟨dst, .convert t u x, ty, pos, aft, g⟩).run P w = .ok (.value (v)) w := by
  subst hv
  simp [execOp, h.1.ev hx, convert, run_underlying ht, run_underlying hu, Conv.intToInt]


theorem r_nilCheck (h : St n s a w E L) {x : Operand} {p : Addr} (hx : ev E x = some (.pointer (some p))) : (execOp a.eval ⟨dst, .nilCheck x, ty, pos, aft, g⟩).run P w = .ok (.value (.pointer (some p))) w := by simp [execOp, h.1.ev hx]

theorem Addr.add_none (b o j : Nat) : (⟨b, o, none⟩ : Addr).add j = ⟨b, o + j, none⟩ := by
  unfold Addr.add; split <;> simp_all

theorem r_fieldAddr (h : St n s a w E L) {t : TypeId} {x : Operand} {b o i : Nat} {fs : Array Field} {f : Field} {sz by_ : Nat} (off : Nat) (hx : ev E x = some (.pointer (some ⟨b, o, none⟩))) (hu : P.underlying t = some (.struct fs)) (hf : fs[i]? = some f)
    (hs : tsz P f.type = some (sz, by_)) (hz : Nat.beq sz 0 = false) (ho : f.offset = off) : (execOp a.eval ⟨dst, .fieldAddr t x i, ty, pos, aft, g⟩).run P w = .ok (.value (.pointer (some ⟨b, o + off, none⟩))) w := by
  have hz' : sz ≠ 0 := Nat.ne_of_beq_eq_false hz
  subst ho
  simp [execOp, h.1.ev hx, Instr.fieldAt, run_underlying hu, hf, Instr.sureAddr, fieldPlace, run_sizeOf hs, hz', Addr.add_none]
theorem r_fieldAddr0 (h : St n s a w E L) {t : TypeId} {x : Operand} {b o i : Nat} {fs : Array Field} {f : Field} {sz by_ : Nat} (hx : ev E x = some (.pointer (some ⟨b, o, none⟩))) (hu : P.underlying t = some (.struct fs)) (hf : fs[i]? = some f)
    (hs : tsz P f.type = some (sz, by_)) (hz : Nat.beq sz 0 = false) (ho : f.offset = 0) : (execOp a.eval ⟨dst, .fieldAddr t x i, ty, pos, aft, g⟩).run P w = .ok (.value (.pointer (some ⟨b, o, none⟩))) w :=
  r_fieldAddr h 0 hx hu hf hs hz ho

/-! loads and stores in a block that is known whole -/
theorem r_load (h : St n s a w E L) {t : TypeId} {x : Operand} {b o : Nat} {dd : TypeDesc} (hx : ev E x = some (.pointer (some ⟨b, o, none⟩))) (hu : P.underlying t = some dd) (hf : TypeDesc.flat dd = true)
    (i : Nat) {vs : Array Value} {T : TypeId} {fr : Nat × Nat} (hi : L[i]? = some (Blk b (.cells vs T fr))) {v : Value} (hv : vs[o]? = some v)
    : (execOp a.eval ⟨dst, .load t x, ty, pos, aft, g⟩).run P w = .ok (.value (v)) w := by
  have hb := h.2.blk i hi
  have hc : w.cell? ⟨b, o, none⟩ = some v := by simp [World.cell?, hb, hv]
  simp [execOp, h.1.ev hx, Instr.loadAt, Instr.sureAddr, loadVar, run_isAgg hu, hf, hc]


theorem run_loadCells_blk (P : Program) (w : World) {b o : Nat} {us : List Value} (hc : ∀ j v, us[j]? = some v → w.cell? ⟨b, o + j, none⟩ = some v) : (loadCells ⟨b, o, none⟩ us.length).run P w = .ok us.toArray w :=
  run_loadCells_list w ⟨b, o, none⟩ us (fun j v hj => by rw [Addr.add_none]; exact hc j v hj)

/-- a struct or an array out of a block -/
theorem r_loadAgg (h : St n s a w E L) {t : TypeId} {x : Operand} {b o sz by_ : Nat} {dd : TypeDesc} (hx : ev E x = some (.pointer (some ⟨b, o, none⟩))) (hu : P.underlying t = some dd) (hf : TypeDesc.flat dd = false) (hs : tsz P t = some (sz, by_))
    (i : Nat) {vs : Array Value} {T : TypeId} {fr : Nat × Nat} (hi : L[i]? = some (Blk b (.cells vs T fr))) {us : List Value} (hv : (vs.toList.drop o).take sz = us) (hl : us.length = sz)
    : (execOp a.eval ⟨dst, .load t x, ty, pos, aft, g⟩).run P w = .ok (.value (.agg us.toArray)) w := by
  have hb := h.2.blk i hi
  have hc : (loadCells ⟨b, o, none⟩ sz).run P w = .ok us.toArray w := by
    rw [← hl]
    refine run_loadCells_blk P w (fun j v hj => ?_)
    rw [← hv, List.getElem?_take] at hj
    split at hj
    · rw [List.getElem?_drop] at hj
      simp only [World.cell?, hb]
      simpa using hj
    · cases hj
  simp [execOp, h.1.ev hx, Instr.loadAt, Instr.sureAddr, loadVar, run_isAgg hu, hf, run_sizeOf hs, hc]


def unfrozen (o : Nat) (fr : Nat × Nat) : Bool := !(Nat.ble fr.1 o && Nat.blt o fr.2)

theorem op_store (h : St n s a w E L) {t : TypeId} {x y : Operand} {b o by_ : Nat} {v : Value} (hx : ev E x = some (.pointer (some ⟨b, o, none⟩))) (hy : ev E y = some v) (hs : tsz P t = some (1, by_)) (h1 : v.oneCell' = true)
    (i : Nat) {vs : Array Value} {T : TypeId} {fr : Nat × Nat} (hi : L[i]? = some (Blk b (.cells vs T fr))) (ho : Nat.blt o vs.size = true) (hfr : unfrozen o fr = true)
    (k : ∀ a w, St n s a w E (L.set i (Blk b (.cells (vs.setIfInBounds o v) T fr))) → next a w) : (Oper.mk none (.store t x y) ty pos aft g).wp P a w next Q := by
  have hb := h.2.blk i hi
  have ho' : o < vs.size := Nat.le_of_ble_eq_true ho
  have hil : i < L.length := (List.getElem?_eq_some_iff.1 hi).1
  have hcells : v.cells = #[v] := by cases v <;> simp_all [Value.oneCell', Value.cells]
  have hcell : w.cell? ⟨b, o, none⟩ = some vs[o] := by simp [World.cell?, hb, ho']
  have hfz : w.frozen? ⟨b, o, none⟩ = false := by
    simp only [World.frozen?, hb]
    simp only [unfrozen, Bool.not_eq_true', Bool.and_eq_false_iff] at hfr
    rcases hfr with e | e
    · have : ¬ fr.1 ≤ o := fun hh => by rw [Nat.ble_eq_true_of_le hh] at e; cases e
      simp [this]
    · have : ¬ o < fr.2 := fun hh => by rw [show Nat.blt o fr.2 = true from Nat.ble_eq_true_of_le hh] at e; cases e
      simp [this]
  have hst : (store ⟨b, o, none⟩ v).run P w = .ok () (w.setCell ⟨b, o, none⟩ v) := by
    rw [run_store P w _ v .plain h1, hcell]; simp [hfz]
  refine op_run_skip h (w' := w.setCell ⟨b, o, none⟩ v) ?_ ?_ k
  · simp [execOp, h.1.ev hx, h.1.ev hy, Instr.storeAt, Instr.sureAddr, storeVar, hcells, run_sizeOf hs, storeCells, Addr.add_none, hst]
  · have hs2 := (h.2.front i hi)
    have hb2 : (w.setCell ⟨b, o, none⟩ v).heap[b]? = some (.cells (vs.setIfInBounds o v) T fr) := by
      simp [World.setCell, Array.getElem?_modify, hb]
    have := Sat.turn (o' := .cells (vs.setIfInBounds o v) T fr) hs2 (w' := w.setCell ⟨b, o, none⟩ v) rfl rfl rfl hb2 (fun k hk => by simp [World.setCell, Array.getElem?_modify, Ne.symm hk])
    exact ⟨this.1, this.2.1, this.2.2.1, sepL_set hil this.2.2.2⟩

end
end Go.Sl
