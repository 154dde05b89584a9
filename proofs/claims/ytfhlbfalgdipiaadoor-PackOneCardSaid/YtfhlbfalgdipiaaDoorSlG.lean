/- A small library for walks, part G: calls, returns and new blocks. No statement is proved here. -/
import Derived.Test.YtfhlbfalgdipiaaDoorSlF
set_option linter.unusedVariables false
set_option linter.unusedSimpArgs false
namespace Go.Sl

/-! ### Calls and returns -/
/-- what a contract says of a call's end: it returns r x, in a world that bears L x, for some x with φ x -/
def Ret {X : Type} (s : World) (r : X → Value) (L : X → List HItem) (φ : X → Prop) : Ending → World → Prop := fun e w => ∃ x, e = .returned (r x) ∧ Sat s w (L x) ∧ φ x

def isGo (P : Program) (f : FuncId) : Bool := match P.funcs[f]? with
  | some fn => !(fn.name == "runtime.NumGoroutine") && fn.body.isSome
  | none => false

theorem run_callFunc_go {P : Program} {f : FuncId} (h : isGo P f = true) (args : Array Value) (w : World) : (callFunc f args).run P w = .ok (.enter f args) w := by
  unfold isGo at h
  split at h
  · rename_i fn hf
    simp only [Bool.and_eq_true, Bool.not_eq_true'] at h
    obtain ⟨h1, h2⟩ := h
    obtain ⟨c, hc⟩ := Option.isSome_iff_exists.1 h2
    have h1' : ¬ fn.name = "runtime.NumGoroutine" := by simpa using h1
    simp [callFunc, hf, h1', hc]
  · cases h

def evs (E : List (Nat × Value)) : List Operand → Option (List Value)
  | [] => some []
  | x :: xs => match ev E x, evs E xs with
    | some v, some vs => some (v :: vs)
    | _, _ => none

theorem Env.evs {n : Nat} {a : Act} {E : List (Nat × Value)} (h : Env n a E) : ∀ {xs : List Operand} {vs : List Value}, evs E xs = some vs → xs.map a.eval = vs
  | [], vs, e => by simp [Sl.evs] at e; simp [e]
  | x :: xs, vs, e => by
    simp only [Sl.evs] at e
    split at e
    · rename_i v us h1 h2
      simp at e
      subst e
      simp [h.ev h1, Env.evs h h2]
    · cases e

section
variable {P : Program} {n : Nat} {s w : World} {a : Act} {E : List (Nat × Value)} {L : List HItem} {Q : Exit → Act → World → Prop} {next : Act → World → Prop}
variable {d : Nat} {dst : Option Nat} {ty : TypeId} {pos : String} {aft : Array Edge} {g : Option (Nat × Bool)}

theorem op_call (h : St n s a w E L) {f : FuncId} {xs : List Operand} {ats : Array TypeId} {vs : List Value} {X : Type} {r : X → Value} {L' : X → List HItem} {φ : X → Prop} (hx : evs E xs = some vs) (hf : isGo P f = true)
    (hc : Calls P f vs.toArray w (Ret s r L' φ)) (hd : Nat.blt d n = true) (k : ∀ x a w, φ x → St n s a w ((d, r x) :: E) (L' x) → next a w) :
    (Oper.mk (some d) (.call { callee := .value (.func f), args := xs.toArray, argTypes := ats }) ty pos aft g).wp P a w next Q := by
  have he : (execOp a.eval (Oper.mk (some d) (.call { callee := .value (.func f), args := xs.toArray, argTypes := ats }) ty pos aft g)).run P w = .ok (.enter f vs.toArray) w := by
    have : execOp a.eval (Oper.mk (some d) (.call { callee := .value (.func f), args := xs.toArray, argTypes := ats }) ty pos aft g) = callFunc f (#[] ++ xs.toArray.map a.eval ++ #[]) := rfl
    rw [this, run_callFunc_go hf]
    simp [h.1.evs hx]
  unfold Oper.wp
  rw [he]
  exact hc.mono fun e w' ⟨x, he, hs, hφ⟩ => by subst he; exact k x _ _ hφ ⟨h.1.put hd _, hs⟩

theorem op_call0 (h : St n s a w E L) {f : FuncId} {xs : List Operand} {ats : Array TypeId} {vs : List Value} {X : Type} {r : X → Value} {L' : X → List HItem} {φ : X → Prop} (hx : evs E xs = some vs) (hf : isGo P f = true)
    (hc : Calls P f vs.toArray w (Ret s r L' φ)) (k : ∀ x a w, φ x → St n s a w E (L' x) → next a w) :
    (Oper.mk none (.call { callee := .value (.func f), args := xs.toArray, argTypes := ats }) ty pos aft g).wp P a w next Q := by
  have he : (execOp a.eval (Oper.mk none (.call { callee := .value (.func f), args := xs.toArray, argTypes := ats }) ty pos aft g)).run P w = .ok (.enter f vs.toArray) w := by
    have : execOp a.eval (Oper.mk none (.call { callee := .value (.func f), args := xs.toArray, argTypes := ats }) ty pos aft g) = callFunc f (#[] ++ xs.toArray.map a.eval ++ #[]) := rfl
    rw [this, run_callFunc_go hf]
    simp [h.1.evs hx]
  unfold Oper.wp
  rw [he]
  exact hc.mono fun e w' ⟨x, he, hs, hφ⟩ => by subst he; exact k x _ _ hφ ⟨h.1, hs⟩

theorem r_extract (h : St n s a w E L) {x : Operand} {i : Nat} {vs : Array Value} {v : Value} (hx : ev E x = some (.tuple vs)) (hv : vs[i]? = some v) : (execOp a.eval ⟨dst, .extract x i, ty, pos, aft, g⟩).run P w = .ok (.value (v)) w := by simp [execOp, h.1.ev hx, Instr.extract, hv]

theorem ret0 {fn : Func} {R : Ending → World → Prop} (h : St n s a w E L) (hr : fn.results = #[]) (hR : R (.returned (.tuple #[])) w) : bodyPost P fn R .ret a w :=
  bodyPost_ret (results_none hr _ _ _) h.1.2.1 hR
theorem ret1 {fn : Func} {R : Ending → World → Prop} (h : St n s a w E L) {t : Nat} {v : Value} (hr : fn.results = #[.tmp t]) (hv : lk E t = some v) (hR : R (.returned v) w) : bodyPost P fn R .ret a w := by
  have := h.1.2.2 t v hv
  refine bodyPost_ret (results_tmp hr _ _ _) h.1.2.1 ?_
  simpa [Array.getD_eq_getD_getElem?, this] using hR
theorem ret2 {fn : Func} {R : Ending → World → Prop} (h : St n s a w E L) {t u : Nat} {v v2 : Value} (hr : fn.results = #[.tmp t, .tmp u]) (hv : lk E t = some v) (hv2 : lk E u = some v2) (hR : R (.returned (.tuple #[v, v2])) w) : bodyPost P fn R .ret a w := by
  have h1 := h.1.2.2 t v hv
  have h2 := h.1.2.2 u v2 hv2
  refine bodyPost_ret (results_tmp2 hr _ _ _) h.1.2.1 ?_
  simpa [Array.getD_eq_getD_getElem?, h1, h2] using hR
theorem ret3 {fn : Func} {R : Ending → World → Prop} (h : St n s a w E L) {t u q : Nat} {v v2 v3 : Value} (hr : fn.results = #[.tmp t, .tmp u, .tmp q]) (hv : lk E t = some v) (hv2 : lk E u = some v2) (hv3 : lk E q = some v3) (hR : R (.returned (.tuple #[v, v2, v3])) w) : bodyPost P fn R .ret a w := by
  have h1 := h.1.2.2 t v hv
  have h2 := h.1.2.2 u v2 hv2
  have h3 := h.1.2.2 q v3 hv3
  refine bodyPost_ret (v := .tuple #[v, v2, v3]) ?_ h.1.2.1 hR
  simp [results, hr, Array.getD_eq_getD_getElem?, h1, h2, h3]
theorem end0 {fn : Func} {R : Ending → World → Prop} (h : St n s a w E L) (hr : fn.results = #[]) (hR : R (.returned (.tuple #[])) w) : bodyPost P fn R .normal a w :=
  bodyPost_end (results_none hr _ _ _) h.1.2.1 hR

/-! ### New memory -/
theorem op_new (h : St n s a w E L) {op : Op} {o : Obj} {v : Value} (hr : (execOp a.eval ⟨some d, op, ty, pos, aft, g⟩).run P w = .ok (.value v) (w.alloc o)) (hd : Nat.blt d n = true)
    (k : ∀ a w', St n s a w' ((d, v) :: E) (Blk w.heap.size o :: L) → next a w') : (Oper.mk (some d) op ty pos aft g).wp P a w next Q :=
  op_run h hr hd (h.2.alloc o) k

theorem op_alloc (h : St n s a w E L) {t : TypeId} {z : Value} (hz : tzero P t = some z) (hd : Nat.blt d n = true)
    (k : ∀ b a w, St n s a w ((d, .pointer (some ⟨b, 0, none⟩)) :: E) (Blk b (.cells z.cells t) :: L) → next a w) : (Oper.mk (some d) (.alloc t) ty pos aft g).wp P a w next Q :=
  op_new h (o := .cells z.cells t) (v := .pointer (some ⟨w.heap.size, 0, none⟩)) (by simp [execOp, Instr.alloc, run_zeroValue hz, newVar, newRow]) hd (k _)
theorem op_box (h : St n s a w E L) {t : TypeId} {x : Operand} {v : Value} (hx : ev E x = some v) (hd : Nat.blt d n = true)
    (k : ∀ b a w, St n s a w ((d, .pointer (some ⟨b, 0, none⟩)) :: E) (Blk b (.cells v.cells t) :: L) → next a w) : (Oper.mk (some d) (.box t x) ty pos aft g).wp P a w next Q :=
  op_new h (o := .cells v.cells t) (v := .pointer (some ⟨w.heap.size, 0, none⟩)) (by simp [execOp, h.1.ev hx, Instr.box, newVar, newRow]) hd (k _)

def evp (E : List (Nat × Value)) : List (Nat × Operand) → Option (List (Nat × Value))
  | [] => some []
  | (i, x) :: xs => match ev E x, evp E xs with
    | some v, some vs => some ((i, v) :: vs)
    | _, _ => none
theorem Env.evp {n : Nat} {a : Act} {E : List (Nat × Value)} (h : Env n a E) : ∀ {xs : List (Nat × Operand)} {vs : List (Nat × Value)}, evp E xs = some vs → xs.map (fun p => (p.1, a.eval p.2)) = vs
  | [], vs, e => by simp [Sl.evp] at e; simp [e]
  | (i, x) :: xs, vs, e => by
    simp only [Sl.evp] at e
    split at e
    · rename_i v us h1 h2
      simp at e
      subst e
      simp [h.ev h1, Env.evp h h2]
    · cases e

theorem cells_zipIdx (off : Nat) : ∀ (vs : List Value) (k : Nat) (cs : Array Value), off + k + vs.length ≤ cs.size →
    ((vs.zipIdx k).foldl (fun cs (x : Value × Nat) => cs.setIfInBounds (off + x.2) x.1) cs).toList = cs.toList.take (off + k) ++ vs ++ cs.toList.drop (off + k + vs.length)
  | [], k, cs, h => by simp
  | v :: vs, k, cs, h => by
    simp only [List.length_cons] at h
    rw [List.zipIdx_cons, List.foldl_cons, cells_zipIdx off vs (k + 1) _ (by simp; omega)]
    have hj : off + k < cs.toList.length := by simp; omega
    simp only [Array.toList_setIfInBounds]
    rw [show off + (k + 1) = off + k + 1 by omega, List.take_set, List.take_succ_eq_append_getElem hj, List.set_append_right _ _ (by simp; omega)]
    have e : off + k - (cs.toList.take (off + k)).length = 0 := by simp; omega
    rw [e, List.drop_set_of_lt (by omega)]
    simp [Nat.add_assoc, Nat.add_comm 1]

/-- a row of values, each of as many cells, in their places -/
theorem fill_row (size : Nat) : ∀ (vs : List Value) (k : Nat) (cs : Array Value), (∀ v ∈ vs, v.cells.size = size) → (k + vs.length) * size ≤ cs.size →
    Instr.fill (fun i => some (i * size, size)) cs ((List.range' k vs.length).zip vs) = some (cs.toList.take (k * size) ++ vs.flatMap (fun v => v.cells.toList) ++ cs.toList.drop ((k + vs.length) * size)).toArray
  | [], k, cs, _, _ => by simp [Instr.fill]
  | v :: vs, k, cs, h, hl => by
    have hv := h v (by simp)
    simp only [List.length_cons] at hl
    have hle : (k + 1) * size ≤ cs.size := Nat.le_trans (Nat.mul_le_mul_right _ (by omega)) hl
    rw [Nat.add_mul, Nat.one_mul] at hle
    rw [List.length_cons, List.range'_succ, List.zip_cons_cons, Instr.fill]
    simp only [hv]
    rw [if_neg (by simp; omega)]
    have hf : v.cells.zipIdx.foldl (fun cs (x : Value × Nat) => cs.setIfInBounds (k * size + x.2) x.1) cs = (cs.toList.take (k * size) ++ v.cells.toList ++ cs.toList.drop (k * size + size)).toArray := by
      apply Array.ext'
      have := cells_zipIdx (k * size) v.cells.toList 0 cs (by simp [hv]; omega)
      simp only [Nat.add_zero, Array.length_toList, hv] at this
      rw [← this, ← Array.foldl_toList, Array.toList_zipIdx]
    have hsz : (cs.toList.take (k * size) ++ v.cells.toList ++ cs.toList.drop (k * size + size)).toArray.size = cs.size := by simp [hv]; omega
    refine (congrArg (fun q => Instr.fill _ q _) hf).trans ?_
    rw [fill_row size vs (k + 1) _ (fun u hu => h u (by simp [hu])) (by rw [hsz]; rw [show k + 1 + vs.length = k + (vs.length + 1) by omega]; exact hl)]
    congr 2
    have h1 : ((cs.toList.take (k * size) ++ v.cells.toList ++ cs.toList.drop (k * size + size))).take ((k + 1) * size) = cs.toList.take (k * size) ++ v.cells.toList := by
      apply List.take_left'
      simp [hv, Nat.add_mul]; omega
    have h2 : ((cs.toList.take (k * size) ++ v.cells.toList ++ cs.toList.drop (k * size + size))).drop ((k + 1 + vs.length) * size) = cs.toList.drop ((k + (vs.length + 1)) * size) := by
      have hl2 : (cs.toList.take (k * size) ++ v.cells.toList).length = k * size + size := by simp [hv]; omega
      rw [List.drop_append, hl2, List.drop_eq_nil_of_le (by rw [hl2, show k + 1 + vs.length = k + 1 + vs.length from rfl, Nat.add_mul, Nat.add_mul]; omega), List.nil_append, List.drop_drop]
      congr 1
      rw [show k + 1 + vs.length = k + (vs.length + 1) by omega, Nat.add_mul, Nat.add_mul]
      omega
    simp only [h1, h2, List.flatMap_cons]
    simp only [List.append_assoc]

/-- a slice written out: its block -/
theorem op_buildSlice (h : St n s a w E L) {t el : TypeId} {len size by_ : Nat} {ps : List (Nat × Operand)} {vs : List Value} {z : Value} {cells : List Value} (hu : P.underlying t = some (.slice el)) (hs : tsz P el = some (size, by_)) (hz : tzero P el = some z)
    (hi : ps.map (fun p => p.1) = List.range' 0 len) (hx : evs E (ps.map fun p => p.2) = some vs) (hlen : Nat.ble (len * size) 16777216 = true) (hpos : Nat.beq (len * size) 0 = false) (hc : vs.flatMap (fun v => v.cells.toList) = cells) (hsz : ∀ v ∈ vs, v.cells.size = size)
    (hd : Nat.blt d n = true) (k : ∀ b a w, St n s a w ((d, .slice (some ⟨b, 0, none⟩) len len) :: E) (Blk b (.cells cells.toArray el) :: L) → next a w) :
    (Oper.mk (some d) (.buildSlice t len ps.toArray) ty pos aft g).wp P a w next Q := by
  refine op_new h (o := .cells cells.toArray el) (v := .slice (some ⟨w.heap.size, 0, none⟩) len len) ?_ hd (k _)
  have h1 : ¬ (16777216 < len * size) := by have := Nat.le_of_ble_eq_true hlen; omega
  have h2 : ¬ (len * size = 0) := Nat.ne_of_beq_eq_false hpos
  have hev := h.1.evs hx
  have hpl : ps.length = len := by have := congrArg List.length hi; simpa using this
  have hvl : vs.length = len := by rw [← hev]; simpa using hpl
  have h3 : (ps.toArray.map fun (i, x) => (i, a.eval x)).toList = (List.range' 0 vs.length).zip vs := by
    rw [hvl, ← hi, ← hev, List.map_map, List.zip_map']
    simp [Function.comp_def]
  have hfill := fill_row size vs 0 ((Array.range (len * size)).map (z.cells[· % z.cells.size]!)) hsz (by simp [hvl])
  simp only [Nat.zero_mul, List.take_zero, List.nil_append, Nat.zero_add] at hfill
  rw [List.drop_eq_nil_of_le (by simp [hvl]), List.append_nil, hc] at hfill
  simp only [execOp, Instr.buildSlice, Sem.run_bind, run_underlying hu, Result.andThen_ok, run_sizeOf hs, h3]
  rw [if_neg (by simpa using h1), if_neg (by simpa using h2)]
  simp [run_zeroValue hz, hfill, newRow]

/-! ### texts and bytes -/
theorem fold_push (l : List UInt8) : ∀ acc : List UInt8, List.foldl (fun (r : ByteArray) (n : Int) => r.push (UInt8.ofNat n.toNat)) ⟨⟨acc⟩⟩ (l.map fun x => (x.toNat : Int)) = ⟨⟨acc ++ l⟩⟩ := by
  induction l with
  | nil => intro acc; simp
  | cons x l ih =>
    intro acc
    simp only [List.map_cons, List.foldl_cons]
    have e : (⟨⟨acc⟩⟩ : ByteArray).push (UInt8.ofNat (x.toNat : Int).toNat) = ⟨⟨acc ++ [x]⟩⟩ := by
      apply ByteArray.ext; apply Array.ext'; simp [ByteArray.push]
    rw [e, ih]
    simp
theorem RDh.bytes {v : Value} {m : Nat} {l : List UInt8} (P : Program) {w : World} (r : RDh 1 v m (bs l) (hmOf w)) : (Conv.bytesToString v).run P w = .ok (.string ⟨⟨l⟩⟩) w := by
  have hc := r.cells P m (Nat.le_refl _)
  obtain ⟨h1, A, cap, rfl, h2, h3, h4⟩ := r
  have hm : m = l.length := by simpa [bs] using h1.symm
  subst hm
  cases A with
  | none =>
    rcases h4 with h4 | ⟨gg, o, cur, e, fr, hA, _⟩
    · have hl : l = [] := List.eq_nil_of_length_eq_zero h4
      subst hl
      simp [Conv.bytesToString]; rfl
    · cases hA
  | some A =>
    simp only [Builtin.firstCells] at hc
    have := run_bytesToString (P := P) w A l.length cap (l.map fun x => (x.toNat : Int)) (by
      rw [Nat.mul_one] at hc
      rw [hc]
      rw [List.take_of_length_le (by simp [bs])]
      have e : bs l = l.map fun x => Value.int .u8 (x.toNat : Int) := rfl
      rw [e]
      simp [Function.comp_def])
    rw [this]
    have e : ByteArray.empty = ⟨⟨[]⟩⟩ := rfl
    rw [e, fold_push l []]
    simp

theorem r_b2s (h : St n s a w E L) {t u el : TypeId} {x : Operand} {v : Value} {m : Nat} {l : List UInt8} (hx : ev E x = some v) (ht : P.underlying t = some (.slice el)) (he : P.underlying el = some (.int .u8)) (hu : P.underlying u = some .string)
    (hv : Views L 1 v m (bs l)) : (execOp a.eval ⟨dst, .convert t u x, ty, pos, aft, g⟩).run P w = .ok (.value (sv l)) w := by
  obtain ⟨A, cap, rfl, _⟩ := hv.shape h.2
  have hc : (convert t u (.slice A m cap)).run P w = (Conv.bytesToString (.slice A m cap)).run P w := by
    cases A <;> simp [convert, run_underlying ht, run_underlying hu, run_underlying he]
  simp [execOp, h.1.ev hx, hc, (hv _ h.2.2.2.2).bytes P (w := w)]
  rfl


/-- a text as a text of another name -/
theorem r_s2s (h : St n s a w E L) {t u : TypeId} {x : Operand} {b : ByteArray} (hx : ev E x = some (.string b)) (ht : P.underlying t = some .string) (hu : P.underlying u = some .string)
    : (execOp a.eval ⟨dst, .convert t u x, ty, pos, aft, g⟩).run P w = .ok (.value (.string b)) w := by simp [execOp, h.1.ev hx, convert, run_underlying ht, run_underlying hu]

theorem op_s2b (h : St n s a w E L) {t u el : TypeId} {x : Operand} {l : List UInt8} (hx : ev E x = some (.string ⟨⟨l⟩⟩)) (ht : P.underlying t = some .string) (hu : P.underlying u = some (.slice el)) (he : P.underlying el = some (.int .u8))
    (hl : l.length ≤ 4294967296) (hd : Nat.blt d n = true) (k : ∀ v a w, St n s a w ((d, v) :: E) (Own 1 v l.length (bs l) :: L) → next a w) : (Oper.mk (some d) (.convert t u x) ty pos aft g).wp P a w next Q := by
  have hsz : (⟨⟨l⟩⟩ : ByteArray).size = l.length := rfl
  have hrun := Lib.run_convert_string_bytes (P := P) w t u el ⟨⟨l⟩⟩ ht hu he
  rw [hsz] at hrun
  have hge := grownCap_ge w l.length 0 el
  have hcm := grownCap_le_maxLen w l.length 0 el (by simp [maxLen]; omega)
  have hcs : (Lib.bytesCells w el ⟨⟨l⟩⟩).size = grownCap w l.length 0 el := by simp [Lib.bytesCells, hsz]; omega
  refine op_run h (v := .slice (some ⟨w.heap.size, 0, none⟩) l.length (grownCap w l.length 0 el)) (w' := Lib.bytesWorld w el ⟨⟨l⟩⟩) (by simp [execOp, h.1.ev hx, hrun]) hd ?_ (k _)
  have hm : sepL (Blk w.heap.size (.cells (Lib.bytesCells w el ⟨⟨l⟩⟩) el ((Lib.bytesCells w el ⟨⟨l⟩⟩).size, (Lib.bytesCells w el ⟨⟨l⟩⟩).size + 1)) :: L) (hmOf (Lib.bytesWorld w el ⟨⟨l⟩⟩)) := by
    refine sepL_more (h := hmOf w) h.2.2.2.2 (by simp [hmOf]) (Lib.bytesWorld_at_new w el _) ?_
    intro j hj
    by_cases hlt : j < w.heap.size
    · exact Lib.bytesWorld_at_old w el _ j hlt
    · have h1 : (Lib.bytesWorld w el ⟨⟨l⟩⟩).heap.size = w.heap.size + 1 := Lib.bytesWorld_size w el _
      show (Lib.bytesWorld w el ⟨⟨l⟩⟩).heap[j]? = w.heap[j]?
      rw [Array.getElem?_eq_none (by omega), Array.getElem?_eq_none (by omega)]
  obtain ⟨D, hI, hL⟩ := hm
  refine ⟨h.2.1, h.2.2.1, h.2.2.2.1, D, ⟨by simp [bs], .inr ⟨_, 0, _, _, _, _, rfl, hI, ?_, hge, hcm, ?_, ?_⟩⟩, hL⟩
  · intro j hj; simp; omega
  · rw [hcs]; omega
  · simp only [List.drop_zero, Nat.mul_one, Lib.bytesCells, Array.toList_append, Array.toList_map]
    rw [List.take_left' (by simp)]
    simp [bs, bv]

end
end Go.Sl
