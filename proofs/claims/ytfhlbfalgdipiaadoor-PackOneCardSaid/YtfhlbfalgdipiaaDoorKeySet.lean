/- A map of keys (arrays of bytes) to true, as an item. No statement is proved here. -/
import Derived.Test.YtfhlbfalgdipiaaDoorSl
set_option linter.unusedVariables false
set_option linter.unusedSimpArgs false
namespace Go.Sl

def keyV {N : Nat} (k : BA N) : Value := .agg ⟨cellsA k⟩
def entries {N : Nat} (l : List (BA N)) : Array MapEntry := (l.zipIdx.map fun p => { key := keyV p.1, val := .bool true, born := p.2 }).toArray
/-- block b is a map that bears these keys -/
def KSet {N : Nat} (b : Nat) (l : List (BA N)) : HItem := Blk b (.map (entries l) l.length)

theorem entries_snoc {N : Nat} (l : List (BA N)) (k : BA N) : entries (l ++ [k]) = (entries l).push { key := keyV k, val := .bool true, born := l.length } := by
  apply Array.ext'
  simp [entries, List.zipIdx_append]

section
variable {P : Program} {n : Nat} {s w : World} {a : Act} {E : List (Nat × Value)} {L : List HItem} {Q : Exit → Act → World → Prop} {next : Act → World → Prop}
variable {d : Nat} {dst : Option Nat} {ty : TypeId} {pos : String} {aft : Array Edge} {g : Option (Nat × Bool)}

theorem run_forIn_unit (F : Nat → PUnit → Sem (ForInStep PUnit)) (w : World) : ∀ (m i : Nat), (∀ j, i ≤ j → j < i + m → (F j PUnit.unit).run P w = .ok (.yield PUnit.unit) w) → (forIn (List.range' i m) PUnit.unit F).run P w = .ok PUnit.unit w := by
  intro m
  induction m with
  | zero => intro i _; simp
  | succ m ih =>
    intro i h
    rw [List.range'_succ, List.forIn_cons]
    simp only [Sem.run_bind, h i (Nat.le_refl _) (by omega), Result.andThen_ok]
    exact ih (i + 1) (fun j h1 h2 => h j (by omega) (by omega))

theorem run_checkKey_arr {t el : TypeId} {N by_ : Nat} {k : IntKind} (hu : P.underlying t = some (.array N el)) (he : P.underlying el = some (.int k)) (hs : tsz P el = some (1, by_)) (cs : Array Value) (hc : cs.size = N) (em : Bool) (m : Nat) (w : World) :
    (Instr.checkKey em (m + 2) t (.agg cs)).run P w = .ok () w := by
  have part1 : ∀ (i : Nat), i < N → ∃ v, (part el cs (i * 1)).run P w = .ok v w := by
    intro i hi
    refine ⟨cs[i], ?_⟩
    simp [part, run_isAgg he, TypeDesc.flat, hc, hi]
  have one : ∀ v, (Instr.checkKey em (m + 1) el v).run P w = .ok () w := by
    intro v
    rw [Instr.checkKey]
    simp only [Sem.run_bind, run_underlying he, Result.andThen_ok, Sem.run_pure]
  rw [Instr.checkKey]
  simp only [Sem.run_bind, run_underlying hu, Result.andThen_ok]
  simp only [Std.Legacy.Range.forIn_eq_forIn_range', Std.Legacy.Range.size]
  rw [run_forIn_unit _ w _ _ (fun j _ h2 => ?_)]
  · rfl
  · obtain ⟨v, hv⟩ := part1 j (by omega)
    simp only [Sem.run_bind, run_sizeOf hs, Result.andThen_ok, hv, one, Sem.run_pure]

theorem run_findAsking {t el : TypeId} {N by_ : Nat} (hu : P.underlying t = some (.array N el)) (he : P.underlying el = some (.int .u8)) (hs : tsz P el = some (1, by_)) (k : BA N) (w : World) :
    ∀ (l : List (BA N)) (i j : Nat), ∃ r, (Instr.findAsking t (keyV k) (l.zipIdx i |>.map fun p => { key := keyV p.1, val := .bool true, born := p.2 }) j).run P w = .ok r w ∧ (k ∉ l → r = none) ∧ (k ∈ l → ∃ q, r = some (q, .bool true)) := by
  intro l
  induction l with
  | nil => intro i j; exact ⟨none, by simp [Instr.findAsking], fun _ => rfl, fun h => by simp at h⟩
  | cons x l ih =>
    intro i j
    have heq := equal_arr8 hu he hs k.len x.len w
    by_cases e : k = x
    · subst e
      refine ⟨some (j, .bool true), ?_, fun h => by simp at h, fun _ => ⟨j, rfl⟩⟩
      simp only [List.zipIdx_cons, List.map_cons, Instr.findAsking, Sem.run_bind]
      have : (Op.equal t (keyV k) (keyV k)).run P w = .ok true w := by rw [show keyV k = .agg (arr8 k.val) from rfl, heq]; simp
      rw [this]; rfl
    · obtain ⟨r, h1, h2, h3⟩ := ih (i + 1) (j + 1)
      refine ⟨r, ?_, fun h => h2 (fun hh => h (by simp [hh])), fun h => h3 (by simpa [e] using h)⟩
      simp only [List.zipIdx_cons, List.map_cons, Instr.findAsking, Sem.run_bind]
      have : (Op.equal t (keyV k) (keyV x)).run P w = .ok false w := by
        rw [show keyV k = .agg (arr8 k.val) from rfl, show keyV x = .agg (arr8 x.val) from rfl, heq]
        have : k.val ≠ x.val := fun hh => e (BA.ext' hh)
        simp [this]
      rw [this]
      exact h1

theorem run_findKey {t el : TypeId} {N by_ : Nat} (hu : P.underlying t = some (.array N el)) (he : P.underlying el = some (.int .u8)) (hs : tsz P el = some (1, by_)) (k : BA N) (l : List (BA N)) (w : World) :
    ∃ r, (Instr.findKey t (keyV k) (entries l).toList).run P w = .ok r w ∧ (k ∉ l → r = none) ∧ (k ∈ l → ∃ q, r = some (q, .bool true)) := by
  cases l with
  | nil => exact ⟨none, by simp [Instr.findKey, Sem.run_bind, run_underlying hu, entries, Instr.findNow], fun _ => rfl, fun h => by simp at h⟩
  | cons x l =>
    obtain ⟨r, h1, h2⟩ := run_findAsking hu he hs k w (x :: l) 0 0
    refine ⟨r, ?_, h2⟩
    have : (entries (x :: l)).toList = ((x :: l).zipIdx 0 |>.map fun p => { key := keyV p.1, val := .bool true, born := p.2 }) := by simp [entries]
    rw [this]
    have hn : Instr.findNow (.array N el) (keyV k) ((x :: l).zipIdx 0 |>.map fun p => ({ key := keyV p.1, val := .bool true, born := p.2 } : MapEntry)) 0 = none := by
      simp [List.zipIdx_cons, Instr.findNow, Instr.sameNow]
    simp only [Instr.findKey, Sem.run_bind, run_underlying hu, Result.andThen_ok, hn]
    exact h1

theorem r_klook (h : St n s a w E L) {mt kt et el : TypeId} {x ix : Operand} {N by_ b : Nat} {k : BA N} {l : List (BA N)} (hx : ev E x = some (.map (some b))) (hi : ev E ix = some (.agg ⟨cellsA k⟩))
    (hm : P.underlying mt = some (.map kt et)) (hz : tzero P et = some (.bool false)) (hu : P.underlying kt = some (.array N el)) (he : P.underlying el = some (.int .u8)) (hs : tsz P el = some (1, by_)) (i : Nat) (hit : L[i]? = some (KSet b l)) :
    (execOp a.eval ⟨dst, .lookup mt x ix false, ty, pos, aft, g⟩).run P w = .ok (.value (.bool (decide (k ∈ l)))) w := by
  have hb := h.2.blk i hit
  obtain ⟨r, h1, h2, h3⟩ := run_findKey hu he hs k l w
  have hg : (getObj b).run P w = .ok (.map (entries l) l.length) w := by simp [getObj, Sem.run, hb]
  have hck := run_checkKey_arr hu he hs (⟨cellsA k⟩ : Array Value) (by show (cellsA k).length = N; rw [cellsA, bs_length, k.len]) (entries l).isEmpty 9998 w
  have hl : (Instr.lookup mt (.map (some b)) (.agg ⟨cellsA k⟩) false).run P w = .ok (.bool (decide (k ∈ l))) w := by
    by_cases hk : k ∈ l
    · obtain ⟨q, rfl⟩ := h3 hk
      simp only [Instr.lookup, Sem.run_bind, run_underlying hm, Result.andThen_ok, hg, Sem.run_pure, hck]
      rw [show (Value.agg ⟨cellsA k⟩) = keyV k from rfl, h1]
      simp [hk]
    · obtain rfl := h2 hk
      simp only [Instr.lookup, Sem.run_bind, run_underlying hm, Result.andThen_ok, hg, Sem.run_pure, hck]
      rw [show (Value.agg ⟨cellsA k⟩) = keyV k from rfl, h1]
      simp [hk, run_zeroValue hz]
  simp [execOp, h.1.ev hx, h.1.ev hi, hl]

theorem op_kput (h : St n s a w E L) {mt kt et el : TypeId} {x ix y : Operand} {N by_ b : Nat} {k : BA N} {l : List (BA N)} (hx : ev E x = some (.map (some b))) (hi : ev E ix = some (.agg ⟨cellsA k⟩)) (hy : ev E y = some (.bool true))
    (hm : P.underlying mt = some (.map kt et)) (hu : P.underlying kt = some (.array N el)) (he : P.underlying el = some (.int .u8)) (hs : tsz P el = some (1, by_)) (i : Nat) (hit : L[i]? = some (KSet b l)) (hk : k ∉ l)
    (K : ∀ a w, St n s a w E (L.set i (KSet b (l ++ [k]))) → next a w) :
    (Oper.mk none (.mapUpdate mt x ix y) ty pos aft g).wp P a w next Q := by
  have hb := h.2.blk i hit
  have hil : i < L.length := (List.getElem?_eq_some_iff.1 hit).1
  have hlt := heap_lt hb
  obtain ⟨r, h1, h2, _⟩ := run_findKey hu he hs k l w
  obtain rfl := h2 hk
  have hg : (getObj b).run P w = .ok (.map (entries l) l.length) w := by simp [getObj, Sem.run, hb]
  have hck := run_checkKey_arr hu he hs (⟨cellsA k⟩ : Array Value) (by show (cellsA k).length = N; rw [cellsA, bs_length, k.len]) false 9998 w
  have hset : (setObj b (.map ((entries l).push { key := keyV k, val := .bool true, born := l.length }) (l.length + 1))).run P w = .ok () { w with heap := w.heap.setIfInBounds b (.map ((entries l).push { key := keyV k, val := .bool true, born := l.length }) (l.length + 1)) } := by
    simp [setObj, Sem.run, hb]
  have hl : (Instr.mapUpdate mt (.map (some b)) (.agg ⟨cellsA k⟩) (.bool true)).run P w = .ok () { w with heap := w.heap.setIfInBounds b (.map ((entries l).push { key := keyV k, val := .bool true, born := l.length }) (l.length + 1)) } := by
    simp only [Instr.mapUpdate, Sem.run_bind, run_underlying hm, Result.andThen_ok, hg, hck]
    rw [show (Value.agg ⟨cellsA k⟩) = keyV k from rfl, h1]
    simpa using hset
  refine op_run_skip h (w' := { w with heap := w.heap.setIfInBounds b (.map ((entries l).push { key := keyV k, val := .bool true, born := l.length }) (l.length + 1)) }) (by simp [execOp, h.1.ev hx, h.1.ev hi, h.1.ev hy, hl]) ?_ K
  have hs2 := h.2.front i hit
  have := Sat.turn (o' := .map ((entries l).push { key := keyV k, val := .bool true, born := l.length }) (l.length + 1)) hs2
    (w' := { w with heap := w.heap.setIfInBounds b (.map ((entries l).push { key := keyV k, val := .bool true, born := l.length }) (l.length + 1)) }) rfl rfl rfl (by simp [hlt]) (fun k hk => by simp [Array.getElem?_setIfInBounds_ne (Ne.symm hk)])
  refine ⟨this.1, this.2.1, this.2.2.1, sepL_set hil ?_⟩
  rw [show (KSet b (l ++ [k])) = Blk b (.map ((entries l).push { key := keyV k, val := .bool true, born := l.length }) (l.length + 1)) from by unfold KSet; rw [entries_snoc]; simp]
  exact this.2.2.2

theorem r_klen (h : St n s a w E L) {mt kt et : TypeId} {x : Operand} {N b : Nat} {l : List (BA N)} (hx : ev E x = some (.map (some b))) (hm : P.underlying mt = some (.map kt et)) (i : Nat) (hit : L[i]? = some (KSet b l)) :
    (execOp a.eval ⟨dst, .call { callee := .builtin .len, args := #[x], argTypes := #[mt] }, ty, pos, aft, g⟩).run P w = .ok (.value (.int .i64 (l.length : Int))) w := by
  have hb := h.2.blk i hit
  have hg : (getObj b).run P w = .ok (.map (entries l) l.length) w := by simp [getObj, Sem.run, hb]
  have : (entries l).size = l.length := by simp [entries]
  simp [execOp, resolve, invoke, builtin, h.1.ev hx, Builtin.len_, run_underlying hm, goInt, hg, this]

theorem op_kmake (h : St n s a w E L) (N : Nat) {mt : TypeId} (hd : Nat.blt d n = true)
    (k : ∀ b a w, St n s a w ((d, .map (some b)) :: E) (KSet b ([] : List (BA N)) :: L) → next a w) : (Oper.mk (some d) (.makeMap mt none) ty pos aft g).wp P a w next Q := by
  refine op_run h (v := .map (some w.heap.size)) (w' := w.alloc (.map #[] 0)) ?_ hd (h.2.alloc _) (k _)
  simp [execOp, Instr.makeMap, run_newObj_alloc]
end
end Go.Sl
namespace Go.Sl
section
variable {P : Program} {n : Nat} {s w : World} {a : Act} {E : List (Nat × Value)} {L : List HItem} {Q : Exit → Act → World → Prop} {next : Act → World → Prop}
variable {d : Nat} {dst : Option Nat} {ty : TypeId} {pos : String} {aft : Array Edge} {g : Option (Nat × Bool)}

theorem zeroCells_one {z : Array Value} (hz : ∀ u ∈ z.toList, u.oneCell' = true) (n : Nat) : ∀ u ∈ (Builtin.zeroCells z n).toList, u.oneCell' = true := by
  intro u hu
  simp only [Builtin.zeroCells, Array.toList_map, List.mem_map, Array.toList_range, List.mem_range] at hu
  obtain ⟨i, hi, rfl⟩ := hu
  have h0 : 0 < z.size := by
    rcases Nat.eq_zero_or_pos z.size with e | e
    · rw [e] at hi; simp at hi
    · exact e
  have hlt := Nat.mod_lt i h0
  rw [getElem!_pos z _ hlt]
  exact hz _ (by simp)

theorem op_clear (h : St n s a w E L) {t el : TypeId} {x : Operand} {size N i : Nat} {v z : Value} {xs : List Value} (hx : ev E x = some (subV size v i N)) (hu : P.underlying t = some (.slice el)) (hz : tzero P el = some z)
    (hzs : z.cells.size = size) (hz1 : ∀ u ∈ z.cells.toList, u.oneCell' = true) (it : Nat) (hit : L[it]? = some (Own size v N xs)) (hi : i ≤ N)
    (k : ∀ zs a w, zs.length = (N - i) * size → St n s a w E (L.set it (Own size v N (xs.take (i * size) ++ zs))) → next a w) :
    (Oper.mk none (.call { callee := .builtin .clear, args := #[x], argTypes := #[t] }) ty pos aft g).wp P a w next Q := by
  have hil : it < L.length := (List.getElem?_eq_some_iff.1 hit).1
  have hF := h.2.front it hit
  obtain ⟨e1, e2, e3, D, ⟨hxl, hI⟩, hL⟩ := hF
  by_cases hiN : i = N
  · subst hiN
    have hr : (execOp a.eval (Oper.mk none (.call { callee := .builtin .clear, args := #[x], argTypes := #[t] }) ty pos aft g)).run P w = .ok (.value (.tuple #[])) w := by
      rcases hI with ⟨rfl, rfl⟩ | ⟨b, o, cap, cur, e, fr, rfl, hb, hfr, hnc, hcm, hcs, hxx⟩
      · simp [execOp, resolve, invoke, builtin, h.1.ev hx, Builtin.clear_, run_underlying hu, subV]
      · simp only [execOp, resolve, invoke, builtin, Array.map, h.1.ev hx, Sem.run_bind, Sem.run_pure, Result.andThen_ok]
        by_cases hci : cap = i
        · simp [execOp, resolve, invoke, builtin, h.1.ev hx, Builtin.clear_, run_underlying hu, subV, hci]
        · simp [execOp, resolve, invoke, builtin, h.1.ev hx, Builtin.clear_, run_underlying hu, subV, hci]
    have hx2 : xs.take (i * size) ++ [] = xs := by rw [List.append_nil, List.take_of_length_le (by omega)]
    refine op_run0 h hr h.2 (fun a w h => k [] a w (by simp) ?_)
    rw [hx2]
    have : L.set it (Own size v i xs) = L := by
      obtain ⟨hlt, hget⟩ := List.getElem?_eq_some_iff.1 hit
      rw [← hget, List.set_getElem_self]
    rw [this]; exact h
  · rcases hI with ⟨rfl, rfl⟩ | ⟨b, o, cap, cur, e, fr, rfl, hb, hfr, hnc, hcm, hcs, hxx⟩
    · omega
    · have hb' : w.heap[b]? = some (.cells cur e fr) := restr_le b _ hb
      have hci : cap ≠ i := by omega
      have hzl : (Builtin.zeroCells z.cells (N - i)).toList.length = (N - i) * size := by rw [Array.length_toList, size_zeroCells, hzs]
      have hle : i * size + (N - i) * size = N * size := by rw [← Nat.add_mul]; congr 1; omega
      have hle2 : N * size ≤ cap * size := Nat.mul_le_mul_right _ hnc
      obtain ⟨w', hr, g1, g2, g3, g4, g5⟩ := run_storeCells_gen P b e fr (o + i * size) (Builtin.zeroCells z.cells (N - i)).toList 0 cur w hb' (by rw [hzl]; omega) hfr (zeroCells_one hz1 _)
      have hrun : (execOp a.eval (Oper.mk none (.call { callee := .builtin .clear, args := #[x], argTypes := #[t] }) ty pos aft g)).run P w = .ok (.value (.tuple #[])) w' := by
        obtain ⟨q, hq⟩ : ∃ q, N - i = q + 1 := ⟨N - i - 1, by omega⟩
        rw [hq] at hr
        simp [execOp, resolve, invoke, builtin, h.1.ev hx, Builtin.clear_, run_underlying hu, subV, hci, Addr.add_none, hq, run_zeroValue hz, hr]
      have hD : D b = true := by
        simp only [restr] at hb
        split at hb
        · assumption
        · cases hb
      refine op_run0 h (w' := w') hrun (L' := L.set it (Own size (.slice (some ⟨b, o, none⟩) N cap) N (xs.take (i * size) ++ (Builtin.zeroCells z.cells (N - i)).toList))) ?_ (fun a w h => k _ a w hzl h)
      refine ⟨g1.trans e1, g2.trans e2, g3.trans e3, sepL_set hil ⟨D, ⟨?_, .inr ⟨b, o, cap, splice cur (o + i * size + 0) (Builtin.zeroCells z.cells (N - i)).toList, e, fr, rfl, ?_, ?_, hnc, hcm, ?_, ?_⟩⟩, ?_⟩⟩
      · rw [List.length_append, hzl, List.length_take, hxl, Nat.min_eq_left (by omega)]; exact hle
      · show restr D (hmOf w') b = _
        simp only [restr, hD, if_true]
        exact g4
      · rw [splice_size _ _ _ (by rw [hzl]; omega)]; exact hfr
      · rw [splice_size _ _ _ (by rw [hzl]; omega)]; exact hcs
      · have hcl : cur.toList.length = cur.size := Array.length_toList
        rw [← hxx]
        simp only [splice, Nat.add_zero, List.append_assoc]
        rw [List.drop_append_of_le_length (by simp; omega), List.drop_take, List.take_append, List.take_take, List.take_take]
        have m1 : min (N * size) (o + i * size - o) = i * size := by omega
        have m2 : min (i * size) (N * size) = i * size := by omega
        rw [m1, m2]
        congr 1
        rw [List.length_take, List.length_drop, hcl, List.take_append_of_le_length (by rw [hzl]; omega), List.take_of_length_le (by rw [hzl]; omega)]
      · refine sepL_mono _ ?_ hL
        intro q u hk
        simp only [restr] at hk ⊢
        split at hk
        · rename_i hk'
          rw [if_pos hk']
          have : q ≠ b := by intro ee; subst ee; simp [hD] at hk'
          show w'.heap[q]? = some u
          rw [g5 q this]; exact hk
        · cases hk
end
end Go.Sl
namespace Go.Sl
/-- the array behind a slice's cell j, as a slice -/
def arE (v : Value) (j N : Nat) : Value := match v with
  | .slice (some a) _ _ => .slice (some ⟨a.block, a.off + j, none⟩) N N
  | _ => undef
section
variable {P : Program} {n : Nat} {s w : World} {a : Act} {E : List (Nat × Value)} {L : List HItem} {Q : Exit → Act → World → Prop} {next : Act → World → Prop}
variable {d : Nat} {dst : Option Nat} {ty : TypeId} {pos : String} {aft : Array Edge} {g : Option (Nat × Bool)}
theorem r_sliceE (h : St n s a w E L) {t el : TypeId} {x : Operand} {j N M size sz by_ : Nat} {v : Value} {xs : List Value} (hx : ev E x = some (elP v j)) (hu : P.underlying t = some (.array N el)) (hs : tsz P el = some (sz, by_)) (hN : Nat.blt 0 N = true)
    (hv : Views L size v M xs) (hM : 0 < M) : (execOp a.eval ⟨dst, .slice t x none none none, ty, pos, aft, g⟩).run P w = .ok (.value (arE v j N)) w := by
  obtain ⟨b, o, cap, rfl, he, _⟩ := (hv _ h.2.2.2.2).elP hM
  rw [he] at hx
  exact r_sliceA h hx hu hs hN
theorem ViewsB.arE {N : Nat} {v : Value} {l : List (BA N)} {y : BA N} {i : Nat} (hv : Views L N v l.length (l.flatMap cellsA)) (hy : l[i]? = some y) (hm : N ≤ maxLen) (hN : 0 < N) : ViewsB L (arE v (i * N) N) y.val := by
  have hlt : i < l.length := (List.getElem?_eq_some_iff.1 hy).1
  intro h hs
  obtain ⟨b, o, cap, rfl, _, cur, e, fr, hb, hc⟩ := (hv h hs).elP (by omega)
  refine ⟨by simp [bs], _, N, by rw [y.len]; rfl, by rw [y.len]; exact Nat.le_refl _, hm, .inr ⟨b, o + i * N, cur, e, fr, rfl, hb, ?_⟩⟩
  have hget := flatMap_get (cells := cellsA) (size := N) Row.len l i y hy
  rw [← hc, List.drop_take, List.take_take, List.drop_drop] at hget
  have h1 : i * N + N ≤ l.length * N := by
    have : (i + 1) * N ≤ l.length * N := Nat.mul_le_mul_right _ hlt
    rw [Nat.add_mul] at this; omega
  rw [Nat.min_eq_left (by omega)] at hget
  rw [Nat.mul_one, y.len]
  exact hget
end
end Go.Sl
