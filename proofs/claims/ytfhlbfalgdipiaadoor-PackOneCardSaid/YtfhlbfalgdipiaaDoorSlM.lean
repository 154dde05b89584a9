/- A small library for walks, part M: whole structs stored, places reckoned, tables of the program. No statement is proved here. -/
import Derived.Test.YtfhlbfalgdipiaaDoorSlL
import Derived.Lib.LaidTab
set_option linter.unusedVariables false
set_option linter.unusedSimpArgs false
namespace Go.Sl
section
variable {P : Program} {n : Nat} {s w : World} {a : Act} {E : List (Nat × Value)} {L : List HItem} {Q : Exit → Act → World → Prop} {next : Act → World → Prop}
variable {d : Nat} {dst : Option Nat} {ty : TypeId} {pos : String} {aft : Array Edge} {g : Option (Nat × Bool)}

/-- a struct or an array into a block -/
theorem op_storeAgg (h : St n s a w E L) {t : TypeId} {x y : Operand} {b o by_ : Nat} {us : List Value} (hx : ev E x = some (.pointer (some ⟨b, o, none⟩))) (hy : ev E y = some (.agg us.toArray)) (hs : tsz P t = some (us.length, by_)) (h1 : ∀ u ∈ us, u.oneCell' = true)
    (i : Nat) {vs vs' : Array Value} {T : TypeId} {fr : Nat × Nat} (hi : L[i]? = some (Blk b (.cells vs T fr))) (ho : Nat.ble (o + us.length) vs.size = true) (hfr : NF fr vs.size) (hv : splice vs o us = vs')
    (k : ∀ a w, St n s a w E (L.set i (Blk b (.cells vs' T fr))) → next a w) : (Oper.mk none (.store t x y) ty pos aft g).wp P a w next Q := by
  have hb := h.2.blk i hi
  have ho' : o + us.length ≤ vs.size := Nat.le_of_ble_eq_true ho
  have hil : i < L.length := (List.getElem?_eq_some_iff.1 hi).1
  obtain ⟨w', hr, g1, g2, g3, g4, g5⟩ := run_storeCells_gen P b T fr o us 0 vs w hb (by omega) hfr h1
  rw [Nat.add_zero, hv] at g4
  refine op_run_skip h (w' := w') ?_ ?_ k
  · have hc : (Value.agg us.toArray).cells = us.toArray := rfl
    simp [execOp, h.1.ev hx, h.1.ev hy, Instr.storeAt, Instr.sureAddr, storeVar, hc, run_sizeOf hs, hr]
  · have hs2 := (h.2.front i hi)
    have := Sat.turn (o' := .cells vs' T fr) hs2 (w' := w') g1 g2 g3 g4 g5
    exact ⟨this.1, this.2.1, this.2.2.1, sepL_set hil this.2.2.2⟩

/-- the place of an element of a slice whose form is known -/
theorem r_idx (h : St n s a w E L) {t el : TypeId} {x ix : Operand} {v : Value} {b o N cap size by_ : Nat} {k1 : IntKind} {c : Int} (hx : ev E x = some v) (hi : ev E ix = some (.int k1 c)) (hu : P.underlying t = some (.slice el)) (hs : tsz P el = some (size, by_))
    (hv : v = .slice (some ⟨b, o, none⟩) N cap) (j : Nat) (hj : c = (j : Int)) (hlt : j < N) : (execOp a.eval ⟨dst, .indexAddr t x ix, ty, pos, aft, g⟩).run P w = .ok (.value (.pointer (some ⟨b, o + j * size, none⟩))) w := by
  subst hj; subst hv
  have h2 : (0 : Int) ≤ (j : Int) ∧ (j : Int) < (N : Int) := by omega
  simp [execOp, h.1.ev hx, h.1.ev hi, Instr.indexAt, asIntOf, run_underlying hu, h2, hlt, run_sizeOf hs, Addr.add_none]

theorem CellsAt.base {W : World} {b : Nat} {us : List Value} (hb : b < W.heap.size) (hc : ∀ j u, us[j]? = some u → W.cell? ⟨b, j, none⟩ = some u) (hne : us ≠ []) : CellsAt [Base W] ⟨b, 0, none⟩ us := by
  refine ⟨rfl, fun h hs => ?_⟩
  obtain ⟨D, hI, _⟩ := sepL_front [Base W] 0 _ h rfl hs
  obtain ⟨u, us', rfl⟩ : ∃ u us', us = u :: us' := by cases us with | nil => exact absurd rfl hne | cons u us' => exact ⟨u, us', rfl⟩
  have h0 := hc 0 u rfl
  obtain ⟨cur, e, fr, hh⟩ : ∃ cur e fr, W.heap[b]? = some (.cells cur e fr) := by
    simp only [World.cell?] at h0
    split at h0
    · rename_i c e fr hh; exact ⟨c, e, fr, hh⟩
    · cases h0
  refine ⟨cur, e, fr, ?_, fun j v hj => ?_⟩
  · have h3 := hI b hb
    exact restr_le b _ (h3.trans hh)
  · have := hc j v hj
    simpa [World.cell?, hh] using this
theorem CellsAt.of_drop {p : Addr} {us : List Value} (k : Nat) (hc : CellsAt (L.drop k) p us) : CellsAt L p us :=
  ⟨hc.1, fun h hs => hc.2 h (sepL_drop k L h hs)⟩
/-- a literal's bytes, as bytes: the row gets its mark behind its last cell -/
theorem op_lit (h : St n s a w E L) {t el : TypeId} {x : Operand} {b N c : Nat} {C : Array Value} {T : TypeId} (hx : ev E x = some (.slice (some ⟨b, 0, none⟩) N c)) (ht : P.underlying t = some (.slice el)) (he : P.underlying el = some (.int .u8))
    (i : Nat) (hi : L[i]? = some (Blk b (.cells C T))) (hd : Nat.blt d n = true)
    (k : ∀ a w, St n s a w ((d, .slice (some ⟨b, 0, none⟩) N c) :: E) (L.set i (Blk b (.cells C T (C.size, C.size + 1)))) → next a w) : (Oper.mk (some d) (.convert t t x) ty pos aft g).wp P a w next Q := by
  have hb := h.2.blk i hi
  have hil : i < L.length := (List.getElem?_eq_some_iff.1 hi).1
  have hsh : w.shape? b = some (T, C.size) := by unfold World.shape?; rw [hb]
  have hrun : (convert t t (.slice (some ⟨b, 0, none⟩) N c)).run P w = .ok (.slice (some ⟨b, 0, none⟩) N c) (w.freeze ⟨b, C.size, none⟩ 1) := by
    simp [convert, run_underlying ht, run_underlying he, markStringish, hsh]
  refine op_run h (v := .slice (some ⟨b, 0, none⟩) N c) (w' := w.freeze ⟨b, C.size, none⟩ 1) (by simp [execOp, h.1.ev hx, hrun]) hd ?_ (k · ·)
  have e1 : w.freeze ⟨b, C.size, none⟩ 1 = { w with heap := w.heap.modify b fun
      | .cells c elem (lo, hi) => .cells c elem (if lo == hi then (C.size, C.size + 1) else (min lo C.size, max hi (C.size + 1)))
      | o => o } := by unfold World.freeze; rw [if_neg (by decide)]; rfl
  have hs2 := h.2.front i hi
  have hb2 : (w.freeze ⟨b, C.size, none⟩ 1).heap[b]? = some (.cells C T (C.size, C.size + 1)) := by
    rw [e1]; simp [Array.getElem?_modify, hb]
  have := Sat.turn (o' := .cells C T (C.size, C.size + 1)) hs2 (w' := w.freeze ⟨b, C.size, none⟩ 1) (by rw [e1]) (by rw [e1]) (by rw [e1]) hb2 (fun k hk => by rw [e1]; simp [Array.getElem?_modify, Ne.symm hk])
  exact ⟨this.1, this.2.1, this.2.2.1, sepL_set hil this.2.2.2⟩
theorem NF.past (k : Nat) : NF (k, k + 1) k := by intro j hj h; omega

/-- a cell of a table of the program -/
theorem r_loadG (h : St n s a w E L) {t : TypeId} {x : Operand} {b q : Nat} {us : List Value} {dd : TypeDesc} (hx : ev E x = some (.pointer (some ⟨b, q, none⟩))) (hu : P.underlying t = some dd) (hf : TypeDesc.flat dd = true)
    (hc : CellsAt L ⟨b, 0, none⟩ us) (j : Nat) (hq : q = j) {v : Value} (hj : us[j]? = some v)
    : (execOp a.eval ⟨dst, .load t x, ty, pos, aft, g⟩).run P w = .ok (.value (v)) w :=
  r_loadC h hx hu hf hc j (.inr (by simp [hq])) hj
end

/-! ### Tables that the row lists -/
theorem laid_tab {P : Program} {W : World} {name : String} {k : IntKind} {zs : List Int} {g : Nat} {t e : TypeId} {n : Nat}
    (hg : P.globalNamed name = some g) (hty : (P.globals[g]?).map (·.type) = some t) (ht : P.underlying t = some (.array n e)) (he : P.underlying e = some (.int k)) (hce : P.cellsOf e = 1) (hct : P.cellsOf t = n) :
    ∀ {lst : List (String × DataW Unit)} {ps : List MemPlace} (i : Nat), DataW.LaidVars P W lst ps → lst[i]? = some (name, Lib.tabData k zs) → Lib.TabIs P W name k zs
  | [], ps, i, _, hi => by simp at hi
  | (n', d') :: rest, ps, 0, h, hi => by
    obtain ⟨g', t', cs, fuel, p, q, hg', ht', hvar, hd, _, _⟩ := h
    simp only [List.getElem?_cons_zero, Option.some.injEq, Prod.mk.injEq] at hi
    obtain ⟨rfl, rfl⟩ := hi
    obtain rfl := Option.some.inj (hg.symm.trans hg')
    obtain rfl := Option.some.inj (hty.symm.trans ht')
    unfold Lib.TabIs
    rw [hvar, ← Lib.cells_of_tab ht he hce hct hd]
  | (n', d') :: rest, ps, i + 1, h, hi => by
    obtain ⟨g', t', cs, fuel, p, q, _, _, _, _, hr, _⟩ := h
    exact laid_tab hg hty ht he hce hct i hr (by simpa using hi)
theorem laid_at {P : Program} {W : World} {name : String} {k : IntKind} {zs : List Int} {g : Nat} {t e : TypeId} {n : Nat} {lst : List (String × DataW Unit)} {us : List Value}
    (hg : P.globalNamed name = some g) (hty : (P.globals[g]?).map (·.type) = some t) (ht : P.underlying t = some (.array n e)) (he : P.underlying e = some (.int k)) (hce : P.cellsOf e = 1) (hct : P.cellsOf t = n)
    (h : laidMet P lst W) (i : Nat) (hi : lst[i]? = some (name, Lib.tabData k zs)) (hu : zs.map (Value.int k) = us) (hne : us ≠ []) : CellsAt [Base W] ⟨g, 0, none⟩ us := by
  obtain ⟨ps, hl, _⟩ := h
  have hT := laid_tab hg hty ht he hce hct i hl hi
  have hc : ∀ j u, us[j]? = some u → W.cell? ⟨g, j, none⟩ = some u := by
    intro j u hj
    have := World.var?_cell hg hT j
    rw [this, ← hj, ← hu]; simp
  refine CellsAt.base ?_ hc hne
  obtain ⟨u, us', rfl⟩ : ∃ u us', us = u :: us' := by cases us with | nil => exact absurd rfl hne | cons u us' => exact ⟨u, us', rfl⟩
  have := hc 0 u rfl
  by_cases hb : g < W.heap.size
  · exact hb
  · simp [World.cell?, Array.getElem?_eq_none (Nat.le_of_not_lt hb)] at this
end Go.Sl
