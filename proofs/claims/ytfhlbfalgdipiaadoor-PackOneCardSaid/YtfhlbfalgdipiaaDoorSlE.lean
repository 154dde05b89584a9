/- A small library for walks, part E: slices that are read. No statement is proved here. -/
import Derived.Test.YtfhlbfalgdipiaaDoorSlD
import Derived.Lib.ConvBytes
set_option linter.unusedVariables false
set_option linter.unusedSimpArgs false
namespace Go.Sl

/-! ### Slices: what one reads, and one that is a call's own -/
def NF (fr : Nat × Nat) (size : Nat) : Prop := ∀ j, j < size → ¬ (fr.1 ≤ j ∧ j < fr.2)

def RDh (size : Nat) (v : Value) (n : Nat) (xs : List Value) (h : HM) : Prop :=
  xs.length = n * size ∧ ∃ A cap, v = .slice A n cap ∧ n ≤ cap ∧ cap ≤ maxLen ∧
    (n = 0 ∨ ∃ g o cur e fr, A = some ⟨g, o, none⟩ ∧ h g = some (.cells cur e fr) ∧ (cur.toList.drop o).take (n * size) = xs)

theorem RDh.mono {size : Nat} {v : Value} {n : Nat} {xs : List Value} {h h' : HM} (hl : HM.le h h') (r : RDh size v n xs h) : RDh size v n xs h' := by
  obtain ⟨h1, A, cap, h2, h3, h4, h5⟩ := r
  refine ⟨h1, A, cap, h2, h3, h4, ?_⟩
  rcases h5 with h5 | ⟨g, o, cur, e, fr, h6, h7, h8⟩
  · exact .inl h5
  · exact .inr ⟨g, o, cur, e, fr, h6, hl _ _ h7, h8⟩

/-- a slice that reads as xs, as an item -/
def Rd (size : Nat) (v : Value) (n : Nat) (xs : List Value) : HItem := ⟨RDh size v n xs, fun _ _ hl r => r.mono hl⟩
/-- in whatever world that bears the items L, the slice v reads as xs: n elements of size cells each -/
def Views (L : List HItem) (size : Nat) (v : Value) (n : Nat) (xs : List Value) : Prop := ∀ h, sepL L h → RDh size v n xs h

theorem Views.cons {L : List HItem} {size : Nat} {v : Value} {n : Nat} {xs : List Value} (hv : Views L size v n xs) (I : HItem) : Views (I :: L) size v n xs :=
  fun h hs => hv h (sepL_tail hs)
theorem Views.of_drop {L : List HItem} {size : Nat} {v : Value} {n : Nat} {xs : List Value} (k : Nat) (hv : Views (L.drop k) size v n xs) : Views L size v n xs :=
  fun h hs => hv h (sepL_drop k L h hs)
theorem Views.of_mem {L : List HItem} {size : Nat} {v : Value} {n : Nat} {xs : List Value} (i : Nat) {I : HItem} (hi : L[i]? = some I) (hv : ∀ h, I.P h → RDh size v n xs h) : Views L size v n xs := by
  intro h hs
  obtain ⟨D, hI, _⟩ := sepL_front L i I h hi hs
  exact (hv _ hI).mono restr_le
theorem Views.length {L : List HItem} {size : Nat} {v : Value} {n : Nat} {xs : List Value} (hv : Views L size v n xs) {s w : World} (hs : Sat s w L) : xs.length = n * size := (hv _ hs.2.2.2).1
theorem Views.shape {L : List HItem} {size : Nat} {v : Value} {n : Nat} {xs : List Value} (hv : Views L size v n xs) {s w : World} (hs : Sat s w L) : ∃ A cap, v = .slice A n cap ∧ n ≤ cap ∧ cap ≤ maxLen :=
  let ⟨_, A, cap, h1, h2, h3, _⟩ := hv _ hs.2.2.2
  ⟨A, cap, h1, h2, h3⟩
theorem Views.nil (L : List HItem) (size : Nat) : Views L size (.slice none 0 0) 0 [] := fun h _ => ⟨by simp, none, 0, rfl, Nat.le_refl _, Nat.zero_le _, .inl rfl⟩

/-- a slice that is a call's own: it may be written, and appended to -/
def Own (size : Nat) (v : Value) (n : Nat) (xs : List Value) : HItem where
  P := fun h => xs.length = n * size ∧ ((v = .slice none 0 0 ∧ n = 0) ∨
    ∃ g o cap cur e fr, v = .slice (some ⟨g, o, none⟩) n cap ∧ h g = some (.cells cur e fr) ∧ NF fr cur.size ∧ n ≤ cap ∧ cap ≤ maxLen ∧ o + cap * size ≤ cur.size ∧ (cur.toList.drop o).take (n * size) = xs)
  mono := by
    intro h h' hl ⟨h1, h2⟩
    refine ⟨h1, ?_⟩
    rcases h2 with h2 | ⟨g, o, cap, cur, e, fr, h3, h4, h5⟩
    · exact .inl h2
    · exact .inr ⟨g, o, cap, cur, e, fr, h3, hl _ _ h4, h5⟩

theorem Own.reads {size : Nat} {v : Value} {n : Nat} {xs : List Value} {h : HM} (ho : (Own size v n xs).P h) : RDh size v n xs h := by
  obtain ⟨h1, h2⟩ := ho
  refine ⟨h1, ?_⟩
  rcases h2 with ⟨rfl, rfl⟩ | ⟨g, o, cap, cur, e, fr, h3, h4, h5, h6, h7, h8, h9⟩
  · exact ⟨none, 0, rfl, Nat.le_refl _, Nat.zero_le _, .inl rfl⟩
  · exact ⟨_, cap, h3, h6, h7, .inr ⟨g, o, cur, e, fr, rfl, h4, h9⟩⟩

theorem Views.own {L : List HItem} {size : Nat} {v : Value} {n : Nat} {xs : List Value} (i : Nat) (hi : L[i]? = some (Own size v n xs)) : Views L size v n xs :=
  Views.of_mem i hi fun _ => Own.reads

theorem Views.rd {L : List HItem} {size : Nat} {v : Value} {n : Nat} {xs : List Value} (i : Nat) (hi : L[i]? = some (Rd size v n xs)) : Views L size v n xs :=
  Views.of_mem i hi fun _ h => h
theorem Sat.rd0 {s w : World} {L : List HItem} {size : Nat} {v : Value} {n : Nat} {xs : List Value} (h : Sat s w (Own size v n xs :: L)) : Sat s w (Rd size v n xs :: L) := by
  obtain ⟨h1, h2, h3, D, hI, hL⟩ := h
  exact ⟨h1, h2, h3, D, Own.reads hI, hL⟩

theorem Views.blk {L : List HItem} {b o : Nat} {n cap size : Nat} {vs : Array Value} {T : TypeId} {fr : Nat × Nat} {xs : List Value} (i : Nat) (hi : L[i]? = some (Blk b (.cells vs T fr)))
    (hn : Nat.ble n cap = true) (hc : Nat.ble cap maxLen = true) (hx : (vs.toList.drop o).take (n * size) = xs) (hl : xs.length = n * size) : Views L size (.slice (some ⟨b, o, none⟩) n cap) n xs :=
  Views.of_mem i hi fun h hb => ⟨hl, _, cap, rfl, Nat.le_of_ble_eq_true hn, Nat.le_of_ble_eq_true hc, .inr ⟨b, o, vs, T, fr, rfl, hb, hx⟩⟩

/-- a new slice with its own block is a call's own -/
theorem Sat.toOwn {s w : World} {L : List HItem} {b : Nat} {vs : Array Value} {T : TypeId} {fr : Nat × Nat} (hs : Sat s w (Blk b (.cells vs T fr) :: L)) (size n : Nat) {xs : List Value} (hf : NF fr vs.size) (hm : n ≤ maxLen) (hx : vs.toList = xs) (hn : vs.size = n * size) :
    Sat s w (Own size (.slice (some ⟨b, 0, none⟩) n n) n xs :: L) := by
  subst hx
  obtain ⟨h1, h2, h3, D, hI, hL⟩ := hs
  refine ⟨h1, h2, h3, D, ⟨by simpa using hn, .inr ⟨b, 0, n, vs, T, fr, rfl, hI, hf, Nat.le_refl _, hm, by omega, ?_⟩⟩, hL⟩
  simp only [List.drop_zero, ← hn]
  exact List.take_of_length_le (by simp)

def CellsAt (L : List HItem) (p : Addr) (us : List Value) : Prop := p.spot = none ∧ ∀ h, sepL L h → ∃ cur e fr, h p.block = some (.cells cur e fr) ∧ ∀ j u, us[j]? = some u → cur[p.off + j]? = some u

theorem CellsAt.get {L : List HItem} {p : Addr} {us : List Value} (hc : CellsAt L p us) {s w : World} (hs : Sat s w L) {j : Nat} {u : Value} (hj : us[j]? = some u) : w.cell? ⟨p.block, p.off + j, none⟩ = some u := by
  obtain ⟨cur, e, fr, h1, h2⟩ := hc.2 _ hs.2.2.2
  have h1' : w.heap[p.block]? = some (.cells cur e fr) := h1
  simp [World.cell?, h1', h2 j u hj]
theorem CellsAt.cons {L : List HItem} {p : Addr} {us : List Value} (hc : CellsAt L p us) (I : HItem) : CellsAt (I :: L) p us := ⟨hc.1, fun h hs => hc.2 h (sepL_tail hs)⟩
theorem CellsAt.of_mem {L : List HItem} {b o : Nat} {vs : Array Value} {T : TypeId} {fr : Nat × Nat} {us : List Value} (i : Nat) (hi : L[i]? = some (Blk b (.cells vs T fr))) (hu : ∀ j u, us[j]? = some u → vs[o + j]? = some u) : CellsAt L ⟨b, o, none⟩ us :=
  ⟨rfl, fun h hs => by
    obtain ⟨D, hI, _⟩ := sepL_front L i _ h hi hs
    exact ⟨vs, T, fr, restr_le _ _ hI, hu⟩⟩

theorem Views.cell {L : List HItem} {size : Nat} {v : Value} {n : Nat} {xs : List Value} (hv : Views L size v n xs) {s w : World} (hs : Sat s w L) {k : Nat} (hk : k < n) {us : List Value} (hu : (xs.drop (k * size)).take size = us) :
    ∃ g o cap, v = .slice (some ⟨g, o, none⟩) n cap ∧ CellsAt L ⟨g, o + k * size, none⟩ us := by
  obtain ⟨h1, A, cap, h2, h3, h4, h5⟩ := hv _ hs.2.2.2
  rcases h5 with h5 | ⟨g, o, cur, e, fr, rfl, h6, h7⟩
  · omega
  · refine ⟨g, o, cap, h2, rfl, fun h hh => ?_⟩
    obtain ⟨_, A', cap', h2', h3', h4', h5'⟩ := hv h hh
    rw [h2] at h2'
    simp only [Value.slice.injEq] at h2'
    obtain ⟨rfl, _, rfl⟩ := h2'
    rcases h5' with h5' | ⟨g', o', cur', e', fr', hg, h6', h7'⟩
    · omega
    · simp only [Option.some.injEq, Addr.mk.injEq, and_true] at hg
      obtain ⟨rfl, rfl⟩ := hg
      refine ⟨cur', e', fr', h6', fun j u hj => ?_⟩
      rw [← hu, List.getElem?_take] at hj
      split at hj
      · rename_i hjs
        rw [List.getElem?_drop, ← h7', List.getElem?_take] at hj
        split at hj
        · rw [List.getElem?_drop] at hj
          simpa [Nat.add_assoc] using hj
        · cases hj
      · cases hj

section
variable {P : Program} {n : Nat} {s w : World} {a : Act} {E : List (Nat × Value)} {L : List HItem} {Q : Exit → Act → World → Prop} {next : Act → World → Prop}
variable {d : Nat} {dst : Option Nat} {ty : TypeId} {pos : String} {aft : Array Edge} {g : Option (Nat × Bool)}

theorem r_lenV (h : St n s a w E L) {t el : TypeId} {x : Operand} {size N : Nat} {v : Value} {xs : List Value} (hx : ev E x = some v) (hu : P.underlying t = some (.slice el)) (hv : Views L size v N xs) : (execOp a.eval ⟨dst, .call { callee := .builtin .len, args := #[x], argTypes := #[t] }, ty, pos, aft, g⟩).run P w = .ok (.value (.int .i64 (N : Int))) w := by
  obtain ⟨A, cap, rfl, _⟩ := hv.shape h.2
  exact (by simp [execOp, resolve, invoke, builtin, h.1.ev hx, Builtin.len_, run_underlying hu, goInt])

theorem r_lenS (h : St n s a w E L) {t el : TypeId} {x : Operand} {N cap : Nat} {A : Option Addr} (hx : ev E x = some (.slice A N cap)) (hu : P.underlying t = some (.slice el)) : (execOp a.eval ⟨dst, .call { callee := .builtin .len, args := #[x], argTypes := #[t] }, ty, pos, aft, g⟩).run P w = .ok (.value (.int .i64 (N : Int))) w := by simp [execOp, resolve, invoke, builtin, h.1.ev hx, Builtin.len_, run_underlying hu, goInt]

theorem r_lenT (h : St n s a w E L) {t : TypeId} {x : Operand} {l : List UInt8} (hx : ev E x = some (.string ⟨⟨l⟩⟩)) (hu : P.underlying t = some .string) : (execOp a.eval ⟨dst, .call { callee := .builtin .len, args := #[x], argTypes := #[t] }, ty, pos, aft, g⟩).run P w = .ok (.value (.int .i64 (l.length : Int))) w := by
  have e : (⟨⟨l⟩⟩ : ByteArray).size = l.length := rfl
  exact (by simp [execOp, resolve, invoke, builtin, h.1.ev hx, Builtin.len_, run_underlying hu, goInt, e])

theorem r_lenA (h : St n s a w E L) {t el : TypeId} {x : Operand} {v : Value} {N : Nat} (hx : ev E x = some v) (hu : P.underlying t = some (.array N el)) : (execOp a.eval ⟨dst, .call { callee := .builtin .len, args := #[x], argTypes := #[t] }, ty, pos, aft, g⟩).run P w = .ok (.value (.int .i64 (N : Int))) w := by
  simp only [execOp, resolve, invoke, builtin, Sem.run_bind, Sem.run_pure, Result.andThen_ok]
  simp [h.1.ev hx, Builtin.len_, run_underlying hu, goInt]


/-- the address of an element that is read -/
theorem op_indexAddr (h : St n s a w E L) {t el : TypeId} {x ix : Operand} {size N by_ : Nat} {v : Value} {xs : List Value} {k1 : IntKind} {c : Int} (hx : ev E x = some v) (hi : ev E ix = some (.int k1 c)) (hu : P.underlying t = some (.slice el)) (hs : tsz P el = some (size, by_))
    (hv : Views L size v N xs) (j : Nat) (hj : c = (j : Int)) (hlt : j < N) {us : List Value} (hus : (xs.drop (j * size)).take size = us)
    (hd : Nat.blt d n = true) (k : ∀ p a w, CellsAt L p us → St n s a w ((d, .pointer (some p)) :: E) L → next a w) : (Oper.mk (some d) (.indexAddr t x ix) ty pos aft g).wp P a w next Q := by
  obtain ⟨b, o, cap, rfl, hc⟩ := hv.cell h.2 hlt hus
  refine op_run h (v := .pointer (some ⟨b, o + j * size, none⟩)) (w' := w) ?_ hd h.2 (k _ · · hc)
  subst hj
  have h2 : (0 : Int) ≤ (j : Int) ∧ (j : Int) < (N : Int) := by omega
  have h3 : ¬ N ≤ j := by omega
  simp [execOp, h.1.ev hx, h.1.ev hi, Instr.indexAt, asIntOf, run_underlying hu, run_sizeOf hs, hlt, h3, Addr.add_none]

/-- a cell that is read, out of what an address bears -/
theorem r_loadC (h : St n s a w E L) {t : TypeId} {x : Operand} {p q : Addr} {us : List Value} {dd : TypeDesc} (hx : ev E x = some (.pointer (some q))) (hu : P.underlying t = some dd) (hf : TypeDesc.flat dd = true)
    (hc : CellsAt L p us) (j : Nat) (hq : q = p ∧ j = 0 ∨ q = ⟨p.block, p.off + j, none⟩) {v : Value} (hj : us[j]? = some v)
    : (execOp a.eval ⟨dst, .load t x, ty, pos, aft, g⟩).run P w = .ok (.value (v)) w := by
  have hcell := hc.get h.2 hj
  have hq' : q = ⟨p.block, p.off + j, none⟩ := by
    rcases hq with ⟨rfl, rfl⟩ | hq
    · obtain ⟨b, o, sp⟩ := q; have := hc.1; simp at this; subst this; simp
    · exact hq
  subst hq'
  simp [execOp, h.1.ev hx, Instr.loadAt, Instr.sureAddr, loadVar, run_isAgg hu, hf, hcell]


/-- an element of one cell -/
theorem r_load1 (h : St n s a w E L) {t : TypeId} {x : Operand} {p : Addr} {v : Value} {dd : TypeDesc} (hx : ev E x = some (.pointer (some p))) (hu : P.underlying t = some dd) (hf : TypeDesc.flat dd = true)
    (hc : CellsAt L p [v]) : (execOp a.eval ⟨dst, .load t x, ty, pos, aft, g⟩).run P w = .ok (.value (v)) w :=
  r_loadC h hx hu hf hc 0 (.inl ⟨rfl, rfl⟩) rfl


/-- a whole struct, or array, of a place that is read -/
theorem r_loadCA (h : St n s a w E L) {t : TypeId} {x : Operand} {p : Addr} {us : List Value} {sz by_ : Nat} {dd : TypeDesc} (hx : ev E x = some (.pointer (some p))) (hu : P.underlying t = some dd) (hf : TypeDesc.flat dd = false) (hs : tsz P t = some (sz, by_))
    (hc : CellsAt L p us) (hl : us.length = sz) : (execOp a.eval ⟨dst, .load t x, ty, pos, aft, g⟩).run P w = .ok (.value (.agg us.toArray)) w := by
  obtain ⟨b, o, sp⟩ := p
  have hsp := hc.1
  simp at hsp
  subst hsp
  have hcs : (loadCells ⟨b, o, none⟩ sz).run P w = .ok us.toArray w := by
    rw [← hl]
    exact run_loadCells_blk P w (fun j v hj => hc.get h.2 hj)
  simp [execOp, h.1.ev hx, Instr.loadAt, Instr.sureAddr, loadVar, run_isAgg hu, hf, run_sizeOf hs, hcs]


/-- a field of a place that is read -/
theorem op_fieldC (h : St n s a w E L) {t : TypeId} {x : Operand} {p : Addr} {us : List Value} {i : Nat} {fs : Array Field} {f : Field} {sz by_ : Nat} (off : Nat) (hx : ev E x = some (.pointer (some p))) (hu : P.underlying t = some (.struct fs)) (hf : fs[i]? = some f)
    (hs : tsz P f.type = some (sz, by_)) (hz : Nat.beq sz 0 = false) (ho : f.offset = off) (hc : CellsAt L p us) (hd : Nat.blt d n = true) (k : ∀ q a w, CellsAt L q (us.drop off) → St n s a w ((d, .pointer (some q)) :: E) L → next a w) :
    (Oper.mk (some d) (.fieldAddr t x i) ty pos aft g).wp P a w next Q := by
  obtain ⟨b, o, sp⟩ := p
  have hsp := hc.1
  simp at hsp
  subst hsp
  refine op_run h (r_fieldAddr h off hx hu hf hs hz ho) hd h.2 (k _ · · ⟨rfl, fun hh hhs => ?_⟩)
  obtain ⟨cur, e, fr, h1, h2⟩ := hc.2 hh hhs
  refine ⟨cur, e, fr, h1, fun j u hj => ?_⟩
  rw [List.getElem?_drop] at hj
  have := h2 _ u hj
  simpa [Nat.add_assoc] using this

end
end Go.Sl
