/- A small library for walks, part F: append. No statement is proved here. -/
import Derived.Test.YtfhlbfalgdipiaaDoorSlE
import Derived.Lib.AppendStr
set_option linter.unusedVariables false
set_option linter.unusedSimpArgs false
namespace Go.Sl

def splice (cur : Array Value) (j : Nat) (vs : List Value) : Array Value := (cur.toList.take j ++ vs ++ cur.toList.drop (j + vs.length)).toArray
theorem splice_size (cur : Array Value) (j : Nat) (vs : List Value) (h : j + vs.length ≤ cur.size) : (splice cur j vs).size = cur.size := by
  simp only [splice, List.size_toArray, List.length_append, List.length_take, List.length_drop, Array.length_toList]
  omega
theorem splice_set (cur : Array Value) (j : Nat) (v : Value) (vs : List Value) (h : j + 1 + vs.length ≤ cur.size) : splice (cur.setIfInBounds j v) (j + 1) vs = splice cur j (v :: vs) := by
  apply Array.ext'
  simp only [splice, Array.toList_setIfInBounds]
  have hj : j < cur.toList.length := by simp; omega
  rw [List.take_set, List.take_succ_eq_append_getElem hj, List.set_append_right _ _ (by simp; omega)]
  have e : j - (cur.toList.take j).length = 0 := by simp; omega
  rw [e]
  simp only [List.set_cons_zero, List.length_cons]
  rw [List.drop_set_of_lt (by omega)]
  simp [Nat.add_assoc, Nat.add_comm 1]

theorem run_storeCells_gen (P : Program) (g : Nat) (T : TypeId) (fr : Nat × Nat) (off : Nat) : ∀ (vs : List Value) (i : Nat) (cur : Array Value) (w : World), w.heap[g]? = some (.cells cur T fr) → off + i + vs.length ≤ cur.size → NF fr cur.size →
    (∀ v ∈ vs, v.oneCell' = true) → ∃ w', (storeCells ⟨g, off, none⟩ vs i).run P w = .ok () w' ∧ w'.os = w.os ∧ w'.tape = w.tape ∧ w'.output = w.output ∧ w'.heap[g]? = some (.cells (splice cur (off + i) vs) T fr) ∧ ∀ k, k ≠ g → w'.heap[k]? = w.heap[k]?
  | [], i, cur, w, hg, _, _, _ => ⟨w, rfl, rfl, rfl, rfl, by simpa [splice] using hg, fun _ _ => rfl⟩
  | v :: vs, i, cur, w, hg, hl, hf, h1 => by
    simp only [List.length_cons] at hl
    have hlt : off + i < cur.size := by omega
    have hcell : w.cell? ⟨g, off + i, none⟩ = some cur[off + i] := by simp [World.cell?, hg, hlt]
    have hfz : w.frozen? ⟨g, off + i, none⟩ = false := by
      simp only [World.frozen?, hg]
      have := hf (off + i) hlt
      simp; omega
    have hst : (store ((⟨g, off, none⟩ : Addr).add i) v).run P w = .ok () (w.setCell ⟨g, off + i, none⟩ v) := by
      rw [Addr.add_none, run_store P w _ v .plain (h1 v (by simp)), hcell]; simp [hfz]
    have hg2 : (w.setCell ⟨g, off + i, none⟩ v).heap[g]? = some (.cells (cur.setIfInBounds (off + i) v) T fr) := by
      simp [World.setCell, Array.getElem?_modify, hg]
    obtain ⟨w', hr, ho, ht, hu, hh, hk⟩ := run_storeCells_gen P g T fr off vs (i + 1) (cur.setIfInBounds (off + i) v) (w.setCell ⟨g, off + i, none⟩ v) hg2 (by simp; omega) (by simpa using hf) (fun u hu => h1 u (by simp [hu]))
    refine ⟨w', ?_, ho, ht, hu, ?_, ?_⟩
    · simp only [storeCells, Sem.run_bind, hst, Result.andThen_ok]; exact hr
    · rw [hh, ← Nat.add_assoc, splice_set _ _ _ _ (by omega)]
    · intro k hkg
      rw [hk k hkg]
      simp [World.setCell, Array.getElem?_modify, Ne.symm hkg]

def notInt : TypeDesc → Bool
  | .int _ => false
  | _ => true

/-- what is appended, or copied: m elements, these cells -/
structure Src (P : Program) (L : List HItem) (size : Nat) (t : TypeId) (vx : Value) (m : Nat) (news : List Value) : Prop where
  len : ∀ w, (Builtin.lenOf vx).run P w = .ok m w
  cells : ∀ s w, Sat s w L → (Builtin.firstCells size m vx).run P w = .ok news.toArray w
  length : news.length = m * size
  type : ∃ d, P.underlying t = some d ∧ notInt d = true

theorem RDh.cells {size : Nat} {v : Value} {m : Nat} {xs : List Value} (P : Program) {w : World} (r : RDh size v m xs (hmOf w)) (m' : Nat) (hm : m' ≤ m) : (Builtin.firstCells size m' v).run P w = .ok (xs.take (m' * size)).toArray w := by
  obtain ⟨h1, A, cap, rfl, h2, h3, h4⟩ := r
  rcases h4 with h4 | ⟨g, o, cur, e, fr, rfl, h5, h6⟩
  · subst h4
    have : m' = 0 := by omega
    subst this
    have hx : xs = [] := List.eq_nil_of_length_eq_zero (by simpa using h1)
    subst hx
    cases A <;> simp [Builtin.firstCells, loadCells, loadCellsFrom]
  · have hl : (xs.take (m' * size)).length = m' * size := by
      rw [List.length_take, h1]
      exact Nat.min_eq_left (Nat.mul_le_mul_right _ hm)
    have key := run_loadCells_blk P w (b := g) (o := o) (us := xs.take (m' * size)) (fun j u hj => by
      have h5' : w.heap[g]? = some (.cells cur e fr) := h5
      have hj2 : xs[j]? = some u := by rw [List.getElem?_take] at hj; split at hj <;> simp_all
      rw [← h6, List.getElem?_take] at hj2
      split at hj2
      · rw [List.getElem?_drop] at hj2
        simp only [World.cell?, h5']
        simpa using hj2
      · cases hj2)
    rw [hl] at key
    exact key

theorem Src.views {P : Program} {L : List HItem} {size : Nat} {t el : TypeId} {vx : Value} {m : Nat} {news : List Value} (hu : P.underlying t = some (.slice el)) (hv : Views L size vx m news) {s w : World} (hs : Sat s w L) : Src P L size t vx m news := by
  refine ⟨?_, ?_, hv.length hs, _, hu, rfl⟩
  · obtain ⟨A, cap, rfl, _⟩ := hv.shape hs
    intro w; simp [Builtin.lenOf]
  · intro s w hs
    have := (hv _ hs.2.2.2).cells P (w := w) m (Nat.le_refl _)
    rw [this, ← hv.length hs, List.take_length]

theorem Src.text {P : Program} {L : List HItem} {t : TypeId} {l : List UInt8} (hu : P.underlying t = some .string) : Src P L 1 t (.string ⟨⟨l⟩⟩) l.length (bs l) := by
  refine ⟨?_, ?_, by simp [bs], _, hu, rfl⟩
  · intro w; simp [Builtin.lenOf]; rfl
  · intro s w _
    have e : (⟨⟨l⟩⟩ : ByteArray).extract 0 l.length = ⟨⟨l⟩⟩ := by
      rw [Lib.extract_eq]; simp
    simp only [Builtin.firstCells, e, Sem.run_pure]
    congr 1
    apply Array.ext'
    simp [bs, bv]

theorem take_drop_splice (cur : Array Value) (o k : Nat) (vs : List Value) (h : o + k + vs.length ≤ cur.size) : ((splice cur (o + k) vs).toList.drop o).take (k + vs.length) = (cur.toList.drop o).take k ++ vs := by
  simp only [splice, List.append_assoc]
  rw [List.drop_append_of_le_length (by simp; omega)]
  have e : (cur.toList.take (o + k)).drop o = (cur.toList.drop o).take k := by rw [List.drop_take]; congr 1; omega
  rw [e]
  have hl : ((cur.toList.drop o).take k).length = k := by simp; omega
  rw [← List.append_assoc]
  exact List.take_left' (by simp [hl])

section
variable {P : Program} {n : Nat} {s w : World} {a : Act} {E : List (Nat × Value)} {L : List HItem} {Q : Exit → Act → World → Prop} {next : Act → World → Prop}
variable {d : Nat} {ty : TypeId} {pos : String} {aft : Array Edge} {g : Option (Nat × Bool)}

theorem run_append_gen {t t2 el : TypeId} {size bytes N m : Nat} {z v vx : Value} {xs news : List Value} (hu : P.underlying t = some (.slice el)) (hs : tsz P el = some (size, bytes)) (hz : tzero P el = some z) (hzs : z.cells.size = size) (hby : Nat.ble bytes 4096 = true)
    (S : Src P L size t2 vx m news) (h1 : ∀ u ∈ news, u.oneCell' = true) (hN : N + m ≤ 4294967296) (i : Nat) (hi : L[i]? = some (Own size v N xs)) (hw : Sat s w L) :
    ∃ v' w', (Builtin.append_ #[t, t2] ty #[v, vx]).run P w = .ok v' w' ∧ Sat s w' (L.set i (Own size v' (N + m) (xs ++ news))) ∧ Sat s w' (L.set i (Rd size v N xs)) := by
  have hby' : bytes ≤ 4096 := Nat.le_of_ble_eq_true hby
  obtain ⟨inf, hinf, rfl, rfl⟩ := tsz_some hs
  have hil : i < L.length := (List.getElem?_eq_some_iff.1 hi).1
  obtain ⟨dt, hdt, hni⟩ := S.type
  have hb47 : (N + m) * inf.bytes ≤ 140737488355328 := Nat.le_trans (Nat.mul_le_mul hN hby') (by decide)
  have hz' : inf.zero = some z := by simpa [tzero, hinf] using hz
  have hF := hw.front i hi
  obtain ⟨e1, e2, e3, D, hI, hL⟩ := hF
  obtain ⟨I0, hI0, hI0r⟩ : ∃ I0 : HItem, I0.P (restr D (hmOf w)) ∧ ∀ h, I0.P h → (Rd inf.size v N xs).P h := ⟨Own inf.size v N xs, hI, fun _ h => Own.reads h⟩
  obtain ⟨hxl, hI⟩ := hI
  have hlen := S.len w
  have hty : ∀ w, (do pure ((← underlying t2) matches .int _) : Sem Bool).run P w = .ok false w := by
    intro w
    rw [Sem.run_bind, run_underlying hdt]
    cases dt <;> first | rfl | (simp [notInt] at hni)
  -- the arm that grows
  have grow : ∀ (A : Option Addr) (cap : Nat), v = .slice A N cap → cap < N + m → ∃ v' w', (Builtin.append_ #[t, t2] ty #[v, vx]).run P w = .ok v' w' ∧ Sat s w' (L.set i (Own inf.size v' (N + m) (xs ++ news))) ∧ Sat s w' (L.set i (Rd inf.size v N xs)) := by
    intro A cap hv hc
    subst hv
    have hfit : Builtin.nextslicecap (N + m) cap * inf.bytes ≤ 281474976710656 := growslice_fits hc hb47
    have hold : (Builtin.firstCells inf.size N (.slice A N cap)).run P w.drew = .ok xs.toArray w.drew := by
      have hr : RDh inf.size (.slice A N cap) N xs (hmOf w.drew) := (Own.reads (h := restr D (hmOf w)) ⟨hxl, hI⟩).mono restr_le
      have := hr.cells P (w := w.drew) N (Nat.le_refl _)
      rw [this, ← hxl, List.take_length]
    have hwd : Sat s w.drew L := hw.congr rfl rfl rfl rfl
    have hnew := S.cells s w.drew hwd
    have hn1 : ¬ (N + m ≤ cap) := by omega
    have hn2 : ¬ (9223372036854775807 < (N : Int) + (m : Int)) := by omega
    have hn3 : ¬ (281474976710656 < Builtin.nextslicecap (N + m) cap * inf.bytes) := by omega
    refine ⟨.slice (some ⟨w.heap.size, 0, none⟩) (N + m) (grownCap w (N + m) cap el), w.drew.alloc (.cells (xs.toArray ++ news.toArray ++ Builtin.zeroCells z.cells (grownCap w (N + m) cap el - (N + m))) el), ?_, ?_, ?_⟩
    · have ht1 := hty w
      simp only [Sem.run_bind] at ht1
      simp [Builtin.append_, run_underlying hu, run_underlying hdt, sizeOf, typeInfo, hinf, hlen, hn1, hn2, hn3, Question.forced, zeroValue, hz', hold, hnew, newRow, grownCap]
      cases dt <;> first | (simp [notInt] at hni; done) | (simp [hlen, hn1, hn2, hn3, Question.forced, zeroValue, hz', hold, hnew, newRow, grownCap, typeInfo, hinf]; congr 2; apply Array.ext'; simp [List.append_assoc])
    · have hge := grownCap_ge w (N + m) cap el
      have hcm : grownCap w (N + m) cap el ≤ maxLen := grownCap_le_maxLen w (N + m) cap el (by simp [maxLen]; omega)
      have hsa := (Sat.alloc (s := s) (w := w.drew) (L := L.eraseIdx i) ⟨e1, e2, e3, sepL_mono _ restr_le hL⟩ (.cells (xs.toArray ++ news.toArray ++ Builtin.zeroCells z.cells (grownCap w (N + m) cap el - (N + m))) el))
      obtain ⟨f1, f2, f3, D', hI', hL'⟩ := hsa
      refine ⟨f1, f2, f3, sepL_set hil ⟨D', ⟨?_, .inr ⟨_, 0, _, _, el, (0, 0), rfl, hI', ?_, hge, hcm, ?_, ?_⟩⟩, hL'⟩⟩
      · rw [List.length_append, hxl, S.length, Nat.add_mul]
      · intro j _ h; simp at h
      · simp only [Array.size_append, List.size_toArray, size_zeroCells, hzs, hxl, S.length, ← Nat.add_mul]
        rw [Nat.zero_add]
        exact Nat.le_of_eq (by congr 1; omega)
      · simp only [Array.toList_append, List.append_assoc, List.drop_zero]
        rw [← List.append_assoc]
        exact List.take_left' (by rw [List.length_append, hxl, S.length, Nat.add_mul])
    · have hsa := (Sat.alloc (s := s) (w := w.drew) (L := I0 :: L.eraseIdx i) ⟨e1, e2, e3, D, hI0, hL⟩ (.cells (xs.toArray ++ news.toArray ++ Builtin.zeroCells z.cells (grownCap w (N + m) cap el - (N + m))) el)).drop 1
      obtain ⟨f1, f2, f3, D', hI', hL'⟩ := hsa
      exact ⟨f1, f2, f3, sepL_set hil ⟨D', hI0r _ hI', hL'⟩⟩
  rcases hI with ⟨rfl, rfl⟩ | ⟨b, o, cap, cur, e, fr, rfl, hb, hfr, hnc, hcm, hcs, hx⟩
  · by_cases hm : m = 0
    · subst hm
      have hn : news = [] := List.eq_nil_of_length_eq_zero (by simpa using S.length)
      have hx : xs = [] := List.eq_nil_of_length_eq_zero (by simpa using hxl)
      subst hn; subst hx
      have hnew := S.cells s w hw
      refine ⟨.slice none 0 0, w, ?_, ⟨e1, e2, e3, sepL_set hil ⟨D, ⟨by simp, .inl ⟨rfl, rfl⟩⟩, hL⟩⟩, ⟨e1, e2, e3, sepL_set hil ⟨D, hI0r _ hI0, hL⟩⟩⟩
      simp [Builtin.append_, run_underlying hu, run_underlying hdt, sizeOf, typeInfo, hinf]
      cases dt <;> first | (simp [notInt] at hni; done) | simp [hlen, hnew]
    · exact grow none 0 rfl (by omega)
  · by_cases hroom : N + m ≤ cap
    · have hb' : w.heap[b]? = some (.cells cur e fr) := restr_le b _ hb
      have hcap : (N + m) * inf.size ≤ cap * inf.size := Nat.mul_le_mul_right _ hroom
      rw [Nat.add_mul] at hcap
      have hnew := S.cells s w hw
      obtain ⟨w', hr, g1, g2, g3, g4, g5⟩ := run_storeCells_gen P b e fr (o + N * inf.size) news 0 cur w hb' (by rw [S.length]; omega) hfr h1
      refine ⟨.slice (some ⟨b, o, none⟩) (N + m) cap, w', ?_, ?_⟩
      · simp [Builtin.append_, run_underlying hu, run_underlying hdt, sizeOf, typeInfo, hinf]
        cases dt <;> first | (simp [notInt] at hni; done) | simp [hlen, hroom, hnew, Addr.add_none, hr]
      · have hD : D b = true := by
          simp only [restr] at hb
          split at hb
          · assumption
          · cases hb
        have hrest : sepL (L.eraseIdx i) (restr (fun b => !D b) (hmOf w')) := by
          refine sepL_mono _ ?_ hL
          intro k u hk
          simp only [restr] at hk ⊢
          split at hk
          · rename_i hk'
            rw [if_pos hk']
            have : k ≠ b := by intro ee; subst ee; simp [hD] at hk'
            show w'.heap[k]? = some u
            rw [g5 k this]; exact hk
          · cases hk
        have hown : (Own inf.size (.slice (some ⟨b, o, none⟩) (N + m) cap) (N + m) (xs ++ news)).P (restr D (hmOf w')) := by
          refine ⟨?_, .inr ⟨b, o, cap, splice cur (o + N * inf.size + 0) news, e, fr, rfl, ?_, ?_, hroom, hcm, ?_, ?_⟩⟩
          · rw [List.length_append, hxl, S.length, Nat.add_mul]
          · show restr D (hmOf w') b = _
            simp only [restr, hD, if_true]
            exact g4
          · rw [splice_size _ _ _ (by rw [S.length]; omega)]; exact hfr
          · rw [splice_size _ _ _ (by rw [S.length]; omega)]; exact hcs
          · rw [Nat.add_mul, ← S.length, Nat.add_zero, take_drop_splice _ _ _ _ (by rw [S.length]; omega), hx]
        have hrd : (Rd inf.size (.slice (some ⟨b, o, none⟩) N cap) N xs).P (restr D (hmOf w')) := by
          refine ⟨hxl, _, cap, rfl, by omega, hcm, .inr ⟨b, o, splice cur (o + N * inf.size + 0) news, e, fr, rfl, ?_, ?_⟩⟩
          · show restr D (hmOf w') b = _
            simp only [restr, hD, if_true]
            exact g4
          · have hts := congrArg (List.take (N * inf.size)) (take_drop_splice cur o (N * inf.size) news (by rw [S.length]; omega))
            rw [List.take_take, Nat.min_eq_left (by omega), hx, List.take_left' hxl] at hts
            rw [Nat.add_zero]; exact hts
        exact ⟨⟨g1.trans e1, g2.trans e2, g3.trans e3, sepL_set hil ⟨D, hown, hrest⟩⟩, ⟨g1.trans e1, g2.trans e2, g3.trans e3, sepL_set hil ⟨D, hrd, hrest⟩⟩⟩
    · exact grow _ cap rfl (by omega)

theorem op_append (h : St n s a w E L) {t t2 el : TypeId} {x y : Operand} {size bytes N m : Nat} {z v vx : Value} {xs news : List Value} (hx : ev E x = some v) (hy : ev E y = some vx) (hu : P.underlying t = some (.slice el)) (hs : tsz P el = some (size, bytes)) (hz : tzero P el = some z)
    (hzs : z.cells.size = size) (hby : Nat.ble bytes 4096 = true) (i : Nat) (hi : L[i]? = some (Own size v N xs)) (S : Src P L size t2 vx m news) (h1 : ∀ u ∈ news, u.oneCell' = true) (hN : N + m ≤ 4294967296)
    (hd : Nat.blt d n = true) (k : ∀ v' a w, St n s a w ((d, v') :: E) (L.set i (Own size v' (N + m) (xs ++ news))) → next a w) :
    (Oper.mk (some d) (.call { callee := .builtin .append, args := #[x, y], argTypes := #[t, t2] }) ty pos aft g).wp P a w next Q := by
  obtain ⟨v', w', hr, hw', _⟩ := run_append_gen (P := P) (ty := ty) hu hs hz hzs hby S h1 hN i hi h.2
  refine op_run h (v := v') (w' := w') ?_ hd hw' (k v')
  simp [execOp, resolve, invoke, builtin, h.1.ev hx, h.1.ev hy, hr]

/-- the same, where what the old slice reads is still wanted -/
theorem op_appendR (h : St n s a w E L) {t t2 el : TypeId} {x y : Operand} {size bytes N m : Nat} {z v vx : Value} {xs news : List Value} (hx : ev E x = some v) (hy : ev E y = some vx) (hu : P.underlying t = some (.slice el)) (hs : tsz P el = some (size, bytes)) (hz : tzero P el = some z)
    (hzs : z.cells.size = size) (hby : Nat.ble bytes 4096 = true) (i : Nat) (hi : L[i]? = some (Own size v N xs)) (S : Src P L size t2 vx m news) (h1 : ∀ u ∈ news, u.oneCell' = true) (hN : N + m ≤ 4294967296)
    (hd : Nat.blt d n = true) (k : ∀ v' a w, Sat s w (L.set i (Rd size v N xs)) → St n s a w ((d, v') :: E) (L.set i (Own size v' (N + m) (xs ++ news))) → next a w) :
    (Oper.mk (some d) (.call { callee := .builtin .append, args := #[x, y], argTypes := #[t, t2] }) ty pos aft g).wp P a w next Q := by
  obtain ⟨v', w', hr, hw', hrd⟩ := run_append_gen (P := P) (ty := ty) hu hs hz hzs hby S h1 hN i hi h.2
  have he : (execOp a.eval (Oper.mk (some d) (.call { callee := .builtin .append, args := #[x, y], argTypes := #[t, t2] }) ty pos aft g)).run P w = .ok (.value v') w' := by
    simp [execOp, resolve, invoke, builtin, h.1.ev hx, h.1.ev hy, hr]
  unfold Oper.wp
  rw [he]
  exact k v' _ _ hrd ⟨h.1.put hd v', hw'⟩

/-- append to a slice that is told to be nil: a new slice of the call's own -/
theorem op_appendNil (h : St n s a w E L) {t t2 el : TypeId} {x y : Operand} {size bytes m : Nat} {z vx : Value} {news : List Value} (hx : ev E x = some (.slice none 0 0)) (hy : ev E y = some vx) (hu : P.underlying t = some (.slice el)) (hs : tsz P el = some (size, bytes)) (hz : tzero P el = some z)
    (hzs : z.cells.size = size) (hby : Nat.ble bytes 4096 = true) (S : Src P L size t2 vx m news) (h1 : ∀ u ∈ news, u.oneCell' = true) (hN : m ≤ 4294967296)
    (hd : Nat.blt d n = true) (k : ∀ v' a w, St n s a w ((d, v') :: E) (Own size v' m news :: L) → next a w) :
    (Oper.mk (some d) (.call { callee := .builtin .append, args := #[x, y], argTypes := #[t, t2] }) ty pos aft g).wp P a w next Q := by
  have h0 : Sat s w (Own size (.slice none 0 0) 0 [] :: L) :=
    ⟨h.2.1, h.2.2.1, h.2.2.2.1, fun _ => false, ⟨by simp, .inl ⟨rfl, rfl⟩⟩, sepL_mono L (fun b o hb => by simpa [restr] using hb) h.2.2.2.2⟩
  have S' : Src P (Own size (.slice none 0 0) 0 [] :: L) size t2 vx m news := ⟨S.len, fun s w hh => S.cells s w hh.tail, S.length, S.type⟩
  obtain ⟨v', w', hr, hw', _⟩ := run_append_gen (P := P) (ty := ty) (N := 0) hu hs hz hzs hby S' h1 (by omega) 0 rfl h0
  simp only [List.set_cons_zero, Nat.zero_add, List.nil_append] at hw'
  refine op_run h (v := v') (w' := w') ?_ hd hw' (k v')
  simp [execOp, resolve, invoke, builtin, h.1.ev hx, h.1.ev hy, hr]

end
end Go.Sl
