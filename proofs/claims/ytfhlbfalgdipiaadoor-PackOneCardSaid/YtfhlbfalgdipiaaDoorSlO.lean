/- A small library for walks, part O: arrays of numbers in blocks. No statement is proved here. -/
import Derived.Test.YtfhlbfalgdipiaaDoorSlN
set_option linter.unusedVariables false
set_option linter.unusedSimpArgs false
namespace Go.Sl
/-- an array's cells -/
def arr32 (l : List UInt32) : Array Value := (l.map w32).toArray
def arr8 (l : List UInt8) : Array Value := (l.map bv).toArray
theorem arr32_size (l : List UInt32) : (arr32 l).size = l.length := by simp [arr32]
theorem arr8_size (l : List UInt8) : (arr8 l).size = l.length := by simp [arr8]
theorem arr32_get {l : List UInt32} {j : Nat} {x : UInt32} (h : l[j]? = some x) : (arr32 l)[0 + j * 1]? = some (w32 x) := by simp [arr32, h]
theorem arr8_get {l : List UInt8} {j : Nat} {x : UInt8} (h : l[j]? = some x) : (arr8 l)[0 + j * 1]? = some (bv x) := by simp [arr8, h]
theorem arr32_set (l : List UInt32) (j : Nat) (x : UInt32) : (arr32 l).setIfInBounds (0 + j * 1) (w32 x) = arr32 (l.set j x) := by simp [arr32, List.map_set]
theorem arr8_set (l : List UInt8) (j : Nat) (x : UInt8) : (arr8 l).setIfInBounds (0 + j * 1) (bv x) = arr8 (l.set j x) := by simp [arr8, List.map_set]
theorem splice_all (vs : Array Value) (us : List Value) (h : vs.size = us.length) : splice vs 0 us = us.toArray := by
  unfold splice
  rw [List.take_zero, List.nil_append, Nat.zero_add, List.drop_eq_nil_iff.2 (by simp [h]), List.append_nil]
theorem unfrozen_zero (o : Nat) : unfrozen o (0, 0) = true := by
  unfold unfrozen
  have : Nat.blt o 0 = false := by cases h : Nat.blt o 0; rfl; exact absurd (Nat.le_of_ble_eq_true h) (by omega)
  simp [this]
theorem arr_fill {α : Type} (D : List α) (z u : α) (i : Nat) (h : D[i]? = some u) : (D.take i ++ List.replicate (D.length - i) z).set i u = D.take (i + 1) ++ List.replicate (D.length - (i + 1)) z := by
  have hi : i < D.length := (List.getElem?_eq_some_iff.1 h).1
  have hl : (D.take i).length = i := by rw [List.length_take]; omega
  rw [List.set_append_right _ _ (by omega), hl, Nat.sub_self, show D.length - i = (D.length - (i + 1)) + 1 by omega, List.replicate_succ, List.set_cons_zero, List.take_add_one, h]
  simp
/-- a block of which the first cells are known -/
def Pre32P (b : Nat) (l : List UInt32) (h : HM) : Prop := ∃ (cur : Array Value) (T : TypeId) (fr : Nat × Nat), h b = some (.cells cur T fr) ∧ ∀ (j : Nat) (u : UInt32), l[j]? = some u → cur[j]? = some (w32 u)
def Pre32 (b : Nat) (l : List UInt32) : HItem := ⟨Pre32P b l, fun h h' hl hb => by
  obtain ⟨cur, T, fr, e, hc⟩ := hb
  exact ⟨cur, T, fr, hl _ _ e, hc⟩⟩
theorem Sat.pre32 {s w : World} {b : Nat} {l l' : List UInt32} {T : TypeId} {G : List HItem} (hs : Sat s w (Blk b (.cells (arr32 l') T) :: G)) (hl : ∀ (j : Nat) (u : UInt32), l[j]? = some u → l'[j]? = some u) : Sat s w (Pre32 b l :: G) :=
  Sat.map (J := Pre32 b l) hs 0 rfl (fun h hb => ⟨arr32 l', T, _, hb, fun j u hj => by simp [arr32, hl j u hj]⟩)
theorem CellsAt.pre32 {L : List HItem} {b : Nat} {l : List UInt32} (i : Nat) (hi : L[i]? = some (Pre32 b l)) : CellsAt L ⟨b, 0, none⟩ (l.map w32) :=
  ⟨rfl, fun h hs => by
    obtain ⟨D, hp, _⟩ := sepL_front L i _ h hi hs
    obtain ⟨cur, T, fr, e, hc⟩ : Pre32P b l (restr D h) := hp
    refine ⟨cur, T, fr, restr_le _ _ e, fun j u hj => ?_⟩
    simp only [List.getElem?_map, Option.map_eq_some_iff] at hj
    obtain ⟨x, hx, rfl⟩ := hj
    simpa using hc j x hx⟩
section
variable {P : Program} {n : Nat} {s w : World} {a : Act} {E : List (Nat × Value)} {L : List HItem} {Q : Exit → Act → World → Prop} {next : Act → World → Prop}
variable {d : Nat} {dst : Option Nat} {ty : TypeId} {pos : String} {aft : Array Edge} {g : Option (Nat × Bool)}

theorem r_load32 (h : St n s a w E L) {t : TypeId} {x : Operand} {b j : Nat} {dd : TypeDesc} (hx : ev E x = some (.pointer (some ⟨b, 0 + j * 1, none⟩))) (hu : P.underlying t = some dd) (hf : TypeDesc.flat dd = true)
    (i : Nat) {l : List UInt32} {T : TypeId} {fr : Nat × Nat} (hi : L[i]? = some (Blk b (.cells (arr32 l) T fr))) {u : UInt32} (hu' : l[j]? = some u) : (execOp a.eval ⟨dst, .load t x, ty, pos, aft, g⟩).run P w = .ok (.value (w32 u)) w :=
  r_load h hx hu hf i hi (arr32_get hu')
theorem r_load8 (h : St n s a w E L) {t : TypeId} {x : Operand} {b j : Nat} {dd : TypeDesc} (hx : ev E x = some (.pointer (some ⟨b, 0 + j * 1, none⟩))) (hu : P.underlying t = some dd) (hf : TypeDesc.flat dd = true)
    (i : Nat) {l : List UInt8} {T : TypeId} {fr : Nat × Nat} (hi : L[i]? = some (Blk b (.cells (arr8 l) T fr))) {u : UInt8} (hu' : l[j]? = some u) : (execOp a.eval ⟨dst, .load t x, ty, pos, aft, g⟩).run P w = .ok (.value (bv u)) w :=
  r_load h hx hu hf i hi (arr8_get hu')
theorem op_store32 (h : St n s a w E L) {t : TypeId} {x y : Operand} {b j by_ : Nat} {u : UInt32} (hx : ev E x = some (.pointer (some ⟨b, 0 + j * 1, none⟩))) (hy : ev E y = some (w32 u)) (hs : tsz P t = some (1, by_))
    (i : Nat) {l : List UInt32} {T : TypeId} (hi : L[i]? = some (Blk b (.cells (arr32 l) T))) (hj : j < l.length)
    (k : ∀ a w, St n s a w E (L.set i (Blk b (.cells (arr32 (l.set j u)) T))) → next a w) : (Oper.mk none (.store t x y) ty pos aft g).wp P a w next Q := by
  refine op_store h hx hy hs rfl i hi (Nat.ble_eq_true_of_le (by rw [arr32_size]; omega)) (unfrozen_zero _) (fun a w h => k a w ?_)
  rw [arr32_set] at h; exact h
theorem op_store8 (h : St n s a w E L) {t : TypeId} {x y : Operand} {b j by_ : Nat} {u : UInt8} (hx : ev E x = some (.pointer (some ⟨b, 0 + j * 1, none⟩))) (hy : ev E y = some (bv u)) (hs : tsz P t = some (1, by_))
    (i : Nat) {l : List UInt8} {T : TypeId} (hi : L[i]? = some (Blk b (.cells (arr8 l) T))) (hj : j < l.length)
    (k : ∀ a w, St n s a w E (L.set i (Blk b (.cells (arr8 (l.set j u)) T))) → next a w) : (Oper.mk none (.store t x y) ty pos aft g).wp P a w next Q := by
  refine op_store h hx hy hs rfl i hi (Nat.ble_eq_true_of_le (by rw [arr8_size]; omega)) (unfrozen_zero _) (fun a w h => k a w ?_)
  rw [arr8_set] at h; exact h
/-- a whole array out of its block, and into it -/
theorem r_loadA32 (h : St n s a w E L) {t : TypeId} {x : Operand} {b sz by_ : Nat} {dd : TypeDesc} (hx : ev E x = some (.pointer (some ⟨b, 0, none⟩))) (hu : P.underlying t = some dd) (hf : TypeDesc.flat dd = false) (hs : tsz P t = some (sz, by_))
    (i : Nat) {l : List UInt32} {T : TypeId} {fr : Nat × Nat} (hi : L[i]? = some (Blk b (.cells (arr32 l) T fr))) (hl : l.length = sz) : (execOp a.eval ⟨dst, .load t x, ty, pos, aft, g⟩).run P w = .ok (.value (.agg (arr32 l))) w :=
  r_loadAgg h hx hu hf hs i hi (us := l.map w32) (by rw [List.drop_zero, List.take_of_length_le (by simp [arr32, hl])]; rfl) (by simpa using hl)
theorem r_loadA8 (h : St n s a w E L) {t : TypeId} {x : Operand} {b sz by_ : Nat} {dd : TypeDesc} (hx : ev E x = some (.pointer (some ⟨b, 0, none⟩))) (hu : P.underlying t = some dd) (hf : TypeDesc.flat dd = false) (hs : tsz P t = some (sz, by_))
    (i : Nat) {l : List UInt8} {T : TypeId} {fr : Nat × Nat} (hi : L[i]? = some (Blk b (.cells (arr8 l) T fr))) (hl : l.length = sz) : (execOp a.eval ⟨dst, .load t x, ty, pos, aft, g⟩).run P w = .ok (.value (.agg (arr8 l))) w :=
  r_loadAgg h hx hu hf hs i hi (us := l.map bv) (by rw [List.drop_zero, List.take_of_length_le (by simp [arr8, hl])]; rfl) (by simpa using hl)
theorem op_storeA32 (h : St n s a w E L) {t : TypeId} {x y : Operand} {b sz by_ : Nat} {l : List UInt32} (hx : ev E x = some (.pointer (some ⟨b, 0, none⟩))) (hy : ev E y = some (.agg (arr32 l))) (hs : tsz P t = some (sz, by_)) (hl : l.length = sz)
    (i : Nat) {vs : Array Value} {T : TypeId} (hi : L[i]? = some (Blk b (.cells vs T))) (hv : vs.size = sz)
    (k : ∀ a w, St n s a w E (L.set i (Blk b (.cells (arr32 l) T))) → next a w) : (Oper.mk none (.store t x y) ty pos aft g).wp P a w next Q := by
  subst hl
  refine op_storeAgg (us := l.map w32) (vs' := arr32 l) h hx hy (by simpa using hs) ?_ i hi (Nat.ble_eq_true_of_le (by simp [hv])) (NF.zero _) (splice_all _ _ (by simp [hv])) k
  intro u hu
  obtain ⟨y, _, rfl⟩ := List.mem_map.1 hu
  rfl
theorem op_storeA8 (h : St n s a w E L) {t : TypeId} {x y : Operand} {b sz by_ : Nat} {l : List UInt8} (hx : ev E x = some (.pointer (some ⟨b, 0, none⟩))) (hy : ev E y = some (.agg (arr8 l))) (hs : tsz P t = some (sz, by_)) (hl : l.length = sz)
    (i : Nat) {vs : Array Value} {T : TypeId} (hi : L[i]? = some (Blk b (.cells vs T))) (hv : vs.size = sz)
    (k : ∀ a w, St n s a w E (L.set i (Blk b (.cells (arr8 l) T))) → next a w) : (Oper.mk none (.store t x y) ty pos aft g).wp P a w next Q := by
  subst hl
  refine op_storeAgg (us := l.map bv) (vs' := arr8 l) h hx hy (by simpa using hs) ?_ i hi (Nat.ble_eq_true_of_le (by simp [hv])) (NF.zero _) (splice_all _ _ (by simp [hv])) k
  intro u hu
  obtain ⟨y, _, rfl⟩ := List.mem_map.1 hu
  rfl
/-- a result that lies in a block of its own -/
theorem run_loadVarA (h : St n s a w E L) {t : TypeId} {b sz by_ : Nat} {dd : TypeDesc} (hu : P.underlying t = some dd) (hf : TypeDesc.flat dd = false) (hs : tsz P t = some (sz, by_))
    (i : Nat) {vs : Array Value} {T : TypeId} {fr : Nat × Nat} (hi : L[i]? = some (Blk b (.cells vs T fr))) (hl : vs.size = sz) : (loadVar t ⟨b, 0, none⟩).run P w = .ok (.agg vs) w := by
  have hb := h.2.blk i hi
  have hc : (loadCells ⟨b, 0, none⟩ sz).run P w = .ok vs.toList.toArray w := by
    rw [← hl, ← Array.length_toList]
    refine run_loadCells_blk P w (fun j v hj => ?_)
    simp only [World.cell?, hb]
    simpa using hj
  simp [loadVar, run_isAgg hu, hf, run_sizeOf hs, hc]
theorem retc {fn : Func} {R : Ending → World → Prop} (h : St n s a w E L) {q : Nat} {t : TypeId} {b sz by_ : Nat} {dd : TypeDesc} (hr : fn.results = #[.cell q t]) (hq : lk E q = some (.pointer (some ⟨b, 0, none⟩))) (hu : P.underlying t = some dd) (hf : TypeDesc.flat dd = false) (hs : tsz P t = some (sz, by_))
    (i : Nat) {vs : Array Value} {T : TypeId} {fr : Nat × Nat} (hi : L[i]? = some (Blk b (.cells vs T fr))) (hl : vs.size = sz) (hR : R (.returned (.agg vs)) w) : bodyPost P fn R .ret a w := by
  have h1 := h.1.2.2 q _ hq
  refine bodyPost_ret (v := .agg vs) ?_ h.1.2.1 hR
  simp [results, hr, h1, asAddr, run_loadVarA h hu hf hs i hi hl]
theorem retct {fn : Func} {R : Ending → World → Prop} (h : St n s a w E L) {q u : Nat} {t : TypeId} {b sz by_ : Nat} {dd : TypeDesc} {v2 : Value} (hr : fn.results = #[.cell q t, .tmp u]) (hq : lk E q = some (.pointer (some ⟨b, 0, none⟩))) (hv2 : lk E u = some v2) (hu : P.underlying t = some dd) (hf : TypeDesc.flat dd = false) (hs : tsz P t = some (sz, by_))
    (i : Nat) {vs : Array Value} {T : TypeId} {fr : Nat × Nat} (hi : L[i]? = some (Blk b (.cells vs T fr))) (hl : vs.size = sz) (hR : R (.returned (.tuple #[.agg vs, v2])) w) : bodyPost P fn R .ret a w := by
  have h1 := h.1.2.2 q _ hq
  have h2 := h.1.2.2 u _ hv2
  refine bodyPost_ret (v := .tuple #[.agg vs, v2]) ?_ h.1.2.1 hR
  simp [results, hr, h1, h2, asAddr, run_loadVarA h hu hf hs i hi hl]
end
theorem arr32_zero (n : Nat) : arr32 (List.replicate n 0) = Array.replicate n (.int .u32 0) := by simp [arr32, w32]
theorem arr8_zero (n : Nat) : arr8 (List.replicate n 0) = Array.replicate n (.int .u8 0) := by simp [arr8, bv]
theorem arr_over {α : Type} (D H : List α) (u : α) (i : Nat) (h : D[i]? = some u) (hl : H.length = D.length) : (D.take i ++ H.drop i).set i u = D.take (i + 1) ++ H.drop (i + 1) := by
  have hi : i < D.length := (List.getElem?_eq_some_iff.1 h).1
  have hl2 : (D.take i).length = i := by rw [List.length_take]; omega
  rw [List.set_append_right _ _ (by omega), hl2, Nat.sub_self, List.drop_eq_getElem_cons (by omega : i < H.length), List.set_cons_zero, List.take_add_one, h]
  simp
theorem fill_one (cells : Array Value) (i : Nat) (v : Value) (hv : v.cells = #[v]) (hi : i < cells.size) (rest : List (Nat × Value)) :
    Instr.fill (fun i => some (i * 1, 1)) cells ((i, v) :: rest) = Instr.fill (fun i => some (i * 1, 1)) (cells.setIfInBounds i v) rest := by
  have h : ¬ (1 ≠ 1 ∨ i * 1 + 1 > cells.size) := by omega
  rw [Instr.fill]
  simp only [hv]
  have hs : (#[v] : Array Value).size = 1 := rfl
  rw [hs]
  rw [if_neg (by simp; omega)]
  simp
theorem fill_words (x0 x1 x2 x3 x4 x5 x6 x7 : UInt32) (a0 a1 a2 a3 a4 a5 a6 a7 : Value) :
    Instr.fill (fun i => some (i * 1, 1)) #[a0, a1, a2, a3, a4, a5, a6, a7] [(0, w32 x0), (1, w32 x1), (2, w32 x2), (3, w32 x3), (4, w32 x4), (5, w32 x5), (6, w32 x6), (7, w32 x7)] = some (arr32 [x0, x1, x2, x3, x4, x5, x6, x7]) := by
  rw [fill_one _ _ _ rfl (by simp), fill_one _ _ _ rfl (by simp), fill_one _ _ _ rfl (by simp), fill_one _ _ _ rfl (by simp), fill_one _ _ _ rfl (by simp), fill_one _ _ _ rfl (by simp), fill_one _ _ _ rfl (by simp), fill_one _ _ _ rfl (by simp), Instr.fill]
  simp [arr32]
end Go.Sl
