/- A small library for walks, part I: conversions, fields and parts of slices. No statement is proved here. -/
import Derived.Test.YtfhlbfalgdipiaaDoorSlH
set_option linter.unusedVariables false
set_option linter.unusedSimpArgs false
namespace Go.Sl

/-! ### Numbers of one kind as numbers of another one -/
namespace C
variable {n : Int} {a : UInt8} {b : UInt16} {c : UInt32} {x : UInt64}
theorem u8_i64 : Value.int .u8 (IntKind.u8.wrap n) = bv (UInt8.ofInt n) := by rw [B.wrap_u8]; rfl
theorem u8_u8 : Value.int .u8 (IntKind.u8.wrap (a.toNat : Int)) = bv a := by rw [B.back_u8]; rfl
theorem u8_u16 : Value.int .u8 (IntKind.u8.wrap (b.toNat : Int)) = bv b.toUInt8 := by
  rw [B.wrap_u8]; congr 2; simp [UInt8.ofInt, UInt8.toNat_ofNat']; try omega
theorem u8_u32 : Value.int .u8 (IntKind.u8.wrap (c.toNat : Int)) = bv c.toUInt8 := by
  rw [B.wrap_u8]; congr 2; simp [UInt8.ofInt, UInt8.toNat_ofNat']; try omega
theorem u8_u64 : Value.int .u8 (IntKind.u8.wrap (x.toNat : Int)) = bv x.toUInt8 := by
  rw [B.wrap_u8]; congr 2; simp [UInt8.ofInt, UInt8.toNat_ofNat']; try omega
theorem u16_i64 : Value.int .u16 (IntKind.u16.wrap n) = w16 (UInt16.ofInt n) := by rw [B.wrap_u16]; rfl
theorem u32_i64 : Value.int .u32 (IntKind.u32.wrap n) = w32 (UInt32.ofInt n) := by rw [B.wrap_u32]; rfl
theorem u32_u32 : Value.int .u32 (IntKind.u32.wrap (c.toNat : Int)) = w32 c := by rw [B.back_u32]; rfl
theorem u32_u8 : Value.int .u32 (IntKind.u32.wrap (a.toNat : Int)) = w32 a.toUInt32 := by
  have h := B.back_u32 a.toUInt32
  simp only [UInt8.toNat_toUInt32] at h
  rw [h]; simp [w32]
theorem u64_i64 : Value.int .u64 (IntKind.u64.wrap n) = w64 (UInt64.ofInt n) := by rw [B.wrap_u64]; rfl
theorem u64_u64 : Value.int .u64 (IntKind.u64.wrap (x.toNat : Int)) = w64 x := by rw [B.back_u64]; rfl
theorem u64_u8 : Value.int .u64 (IntKind.u64.wrap (a.toNat : Int)) = w64 a.toUInt64 := by
  have h := B.back_u64 a.toUInt64
  simp only [UInt8.toNat_toUInt64] at h
  rw [h]; simp [w64]
theorem i64_u8 : Value.int .i64 (IntKind.i64.wrap (a.toNat : Int)) = .int .i64 (a.toNat : Int) := by
  have := a.toNat_lt; rw [wrap_i64 _ (by omega) (by omega)]
theorem i64_u16 : Value.int .i64 (IntKind.i64.wrap (b.toNat : Int)) = .int .i64 (b.toNat : Int) := by
  have := b.toNat_lt; rw [wrap_i64 _ (by omega) (by omega)]
theorem i64_u32 : Value.int .i64 (IntKind.i64.wrap (c.toNat : Int)) = .int .i64 (c.toNat : Int) := by
  have := c.toNat_lt; rw [wrap_i64 _ (by omega) (by omega)]
theorem i64_u64 (h : x.toNat < 9223372036854775808) : Value.int .i64 (IntKind.i64.wrap (x.toNat : Int)) = .int .i64 (x.toNat : Int) := by
  rw [wrap_i64 _ (by omega) (by omega)]
theorem i64_i64 (h1 : -9223372036854775808 ≤ n) (h2 : n ≤ 9223372036854775807) : Value.int .i64 (IntKind.i64.wrap n) = .int .i64 n := by rw [wrap_i64 _ h1 h2]
theorem i64_i8 (h1 : -9223372036854775808 ≤ n) (h2 : n ≤ 9223372036854775807) : Value.int .i64 (IntKind.i64.wrap n) = .int .i64 n := by rw [wrap_i64 _ h1 h2]
end C

theorem B.or_i64 {m k : Nat} (hm : m < 9223372036854775808) (hk : k < 9223372036854775808) : BinR .or .i64 (m : Int) .i64 (k : Int) (.int .i64 ((m ||| k : Nat) : Int)) := by
  intro P t w
  have e : ∀ j : Nat, j < 9223372036854775808 → BitVec.ofInt IntKind.i64.bits (j : Int) = BitVec.ofNat 64 j := by
    intro j hj; apply BitVec.eq_of_toNat_eq; simp [IntKind.bits]
  have h1 : m ||| k < 9223372036854775808 := Nat.or_lt_two_pow (n := 63) hm hk
  have h2 : (BitVec.ofNat 64 m ||| BitVec.ofNat 64 k).toNat = m ||| k := by
    rw [BitVec.toNat_or, BitVec.toNat_ofNat, BitVec.toNat_ofNat, Nat.mod_eq_of_lt (by omega), Nat.mod_eq_of_lt (by omega)]
  have h3 : IntKind.i64.wrap ((m ||| k : Nat) : Int) = ((m ||| k : Nat) : Int) := wrap_i64 _ (by omega) (by omega)
  simp only [binOp, Op.intBits, ne_eq, not_true_eq_false, if_false]
  rw [e m hm, e k hk]
  show Result.ok (Value.int .i64 (IntKind.i64.wrap ((BitVec.ofNat 64 m ||| BitVec.ofNat 64 k).toNat : Int))) w = _
  rw [h2, h3]

section
variable {P : Program} {n : Nat} {s w : World} {a : Act} {E : List (Nat × Value)} {L : List HItem} {Q : Exit → Act → World → Prop} {next : Act → World → Prop}
variable {d : Nat} {dst : Option Nat} {ty : TypeId} {pos : String} {aft : Array Edge} {g : Option (Nat × Bool)}

/-! ### min, max -/
theorem r_max2 (h : St n s a w E L) {x y : Operand} {p q : Int} {k : IntKind} {ats : Array TypeId} (hx : ev E x = some (.int k p)) (hy : ev E y = some (.int k q)) :
    (execOp a.eval ⟨dst, .call { callee := .builtin .max, args := #[x, y], argTypes := ats }, ty, pos, aft, g⟩).run P w = .ok (.value (.int k (max p q))) w := by
  have e : (if q > p then q else p) = max p q := by rw [Int.max_def]; split <;> split <;> omega
  simp [execOp, resolve, invoke, builtin, h.1.ev hx, h.1.ev hy, Builtin.max_, Builtin.max2, e]
theorem r_min2 (h : St n s a w E L) {x y : Operand} {p q : Int} {k : IntKind} {ats : Array TypeId} (hx : ev E x = some (.int k p)) (hy : ev E y = some (.int k q)) :
    (execOp a.eval ⟨dst, .call { callee := .builtin .min, args := #[x, y], argTypes := ats }, ty, pos, aft, g⟩).run P w = .ok (.value (.int k (min p q))) w := by
  have e : (if q < p then q else p) = min p q := by rw [Int.min_def]; split <;> split <;> omega
  simp [execOp, resolve, invoke, builtin, h.1.ev hx, h.1.ev hy, Builtin.min_, Builtin.min2, e]

/-! ### indices of texts and arrays -/
theorem r_indexT (h : St n s a w E L) {t : TypeId} {x ix : Operand} {l : List UInt8} {k1 : IntKind} {c : Int} (hx : ev E x = some (.string ⟨⟨l⟩⟩)) (hi : ev E ix = some (.int k1 c)) (hu : P.underlying t = some .string) (j : Nat) (hj : c = (j : Int)) {u : UInt8} (hu' : l[j]? = some u) :
    (execOp a.eval ⟨dst, .index t x ix, ty, pos, aft, g⟩).run P w = .ok (.value (bv u)) w := by
  subst hj
  have hb : (⟨⟨l⟩⟩ : ByteArray)[j]? = some u := by
    have hlt : j < l.length := (List.getElem?_eq_some_iff.1 hu').1
    have : l[j] = u := (List.getElem?_eq_some_iff.1 hu').2
    have hs : j < (⟨⟨l⟩⟩ : ByteArray).size := hlt
    rw [getElem?_pos (⟨⟨l⟩⟩ : ByteArray) j hs]
    exact congrArg some this
  have h0 : (0 : Int) ≤ (j : Int) := by omega
  simp [execOp, h.1.ev hx, h.1.ev hi, Instr.index, asIntOf, run_underlying hu, hb, bv]

theorem r_indexA (h : St n s a w E L) {t el : TypeId} {x ix : Operand} {cs : Array Value} {N by_ : Nat} {k1 : IntKind} {c : Int} {dd : TypeDesc} (hx : ev E x = some (.agg cs)) (hi : ev E ix = some (.int k1 c)) (hu : P.underlying t = some (.array N el)) (he : P.underlying el = some dd) (hs : tsz P el = some (1, by_))
    (hf : TypeDesc.flat dd = true) (j : Nat) (hj : c = (j : Int)) (hlt : j < N) {u : Value} (hu' : cs[j]? = some u) :
    (execOp a.eval ⟨dst, .index t x ix, ty, pos, aft, g⟩).run P w = .ok (.value u) w := by
  subst hj
  simp [execOp, h.1.ev hx, h.1.ev hi, Instr.index, asIntOf, run_underlying hu, hlt, run_sizeOf hs, part, run_isAgg he, hf, hu']

/-- the address of an element of an array that lies in a block -/
theorem r_indexAddrA (h : St n s a w E L) {t el : TypeId} {x ix : Operand} {b o : Nat} {N size by_ : Nat} {k1 : IntKind} {c : Int} (hx : ev E x = some (.pointer (some ⟨b, o, none⟩))) (hi : ev E ix = some (.int k1 c)) (hu : P.underlying t = some (.array N el)) (hs : tsz P el = some (size, by_))
    (j : Nat) (hj : c = (j : Int)) (hlt : j < N) : (execOp a.eval ⟨dst, .indexAddr t x ix, ty, pos, aft, g⟩).run P w = .ok (.value (.pointer (some ⟨b, o + j * size, none⟩))) w := by
  subst hj
  simp [execOp, h.1.ev hx, h.1.ev hi, Instr.indexAt, asIntOf, Instr.sureAddr, run_underlying hu, hlt, run_sizeOf hs, Addr.add_none]

/-! ### structs and arrays written out; their parts -/
theorem r_field (h : St n s a w E L) {t : TypeId} {x : Operand} {i by_ : Nat} {cs : Array Value} {fs : Array Field} {f : Field} {dd : TypeDesc} (hx : ev E x = some (.agg cs)) (hu : P.underlying t = some (.struct fs)) (hf : fs[i]? = some f) (he : P.underlying f.type = some dd)
    (hs : tsz P f.type = some (1, by_)) (hfl : TypeDesc.flat dd = true) {u : Value} (hv : cs[f.offset]? = some u) : (execOp a.eval ⟨dst, .field t x i, ty, pos, aft, g⟩).run P w = .ok (.value u) w := by
  simp [execOp, h.1.ev hx, Instr.field, run_underlying hu, hf, asAgg, part, run_isAgg he, hfl, hv]
theorem r_fieldAgg (h : St n s a w E L) {t : TypeId} {x : Operand} {i by_ sz : Nat} {cs : Array Value} {fs : Array Field} {f : Field} {dd : TypeDesc} (hx : ev E x = some (.agg cs)) (hu : P.underlying t = some (.struct fs)) (hf : fs[i]? = some f) (he : P.underlying f.type = some dd)
    (hs : tsz P f.type = some (sz, by_)) (hfl : TypeDesc.flat dd = false) {us : Array Value} (hv : cs.extract f.offset (f.offset + sz) = us) : (execOp a.eval ⟨dst, .field t x i, ty, pos, aft, g⟩).run P w = .ok (.value (.agg us)) w := by
  simp [execOp, h.1.ev hx, Instr.field, run_underlying hu, hf, asAgg, part, run_isAgg he, hfl, run_sizeOf hs, hv]

/-! ### slices of texts and of slices -/
def Bnd (E : List (Nat × Value)) (o : Option Operand) (dflt k : Nat) : Prop := match o with
  | none => k = dflt
  | some x => ∃ kk, ev E x = some (.int kk (k : Int))

theorem run_bounds (h : Env n a E) {lo hi : Option Operand} {isS : Bool} {len cap l k : Nat} (hl : Bnd E lo 0 l) (hh : Bnd E hi len k) (h1 : l ≤ k) (h2 : k ≤ cap) (w : World) :
    (Instr.sliceBounds isS len cap (lo.map a.eval) (hi.map a.eval) none).run P w = .ok (l, k, cap) w := by
  cases lo with
  | none =>
    cases hi with
    | none => simp only [Bnd] at hl hh; subst hl; subst hh; simp [Instr.sliceBounds]
    | some y =>
      obtain ⟨kk, hy⟩ := hh
      simp only [Bnd] at hl; subst hl
      simp [Instr.sliceBounds, h.ev hy, Instr.sliceBound, asIntOf, h2]
  | some x =>
    obtain ⟨kx, hx⟩ := hl
    cases hi with
    | none => simp only [Bnd] at hh; subst hh; simp [Instr.sliceBounds, h.ev hx, Instr.sliceBound, asIntOf, h1]
    | some y =>
      obtain ⟨kk, hy⟩ := hh
      simp [Instr.sliceBounds, h.ev hx, h.ev hy, Instr.sliceBound, asIntOf, h1, h2]

theorem r_sliceT (h : St n s a w E L) {t : TypeId} {x : Operand} {lo hi : Option Operand} {l : List UInt8} (hx : ev E x = some (.string ⟨⟨l⟩⟩)) (hu : P.underlying t = some .string) (i j : Nat) (hl : Bnd E lo 0 i) (hh : Bnd E hi l.length j) (h1 : i ≤ j) (h2 : j ≤ l.length) :
    (execOp a.eval ⟨dst, .slice t x lo hi none, ty, pos, aft, g⟩).run P w = .ok (.value (sv ((l.drop i).take (j - i)))) w := by
  have hsz : (⟨⟨l⟩⟩ : ByteArray).size = l.length := rfl
  have hb := run_bounds (P := P) (isS := false) (cap := l.length) h.1 hl hh h1 h2 w
  have he : (⟨⟨l⟩⟩ : ByteArray).extract i j = ⟨⟨(l.drop i).take (j - i)⟩⟩ := Lib.extract_eq _ _ _
  simp [execOp, h.1.ev hx, Instr.sliceAt, run_underlying hu, Instr.slice, hsz, hb, he, sv]

/-- the value that a slice of a slice is -/
def subV (size : Nat) (v : Value) (i j : Nat) : Value := match v with
  | .slice A _ cap => .slice (if cap = i then A else A.map (·.add (i * size))) (j - i) (cap - i)
  | v => v

theorem RDh.sub {size : Nat} {v : Value} {N : Nat} {xs : List Value} {h : HM} (r : RDh size v N xs h) {i j : Nat} (h1 : i ≤ j) (h2 : j ≤ N) : RDh size (subV size v i j) (j - i) ((xs.drop (i * size)).take ((j - i) * size)) h := by
  obtain ⟨e1, A, cap, rfl, e2, e3, e4⟩ := r
  have hlen : ((xs.drop (i * size)).take ((j - i) * size)).length = (j - i) * size := by
    rw [List.length_take, List.length_drop, e1, Nat.min_eq_left]
    rw [← Nat.mul_sub_right_distrib]
    exact Nat.mul_le_mul_right _ (by omega)
  refine ⟨hlen, _, _, rfl, by omega, by omega, ?_⟩
  by_cases hji : j = i
  · exact .inl (by omega)
  · rcases e4 with e4 | ⟨gg, o, cur, e, fr, rfl, e5, e6⟩
    · omega
    · refine .inr ⟨gg, o + i * size, cur, e, fr, ?_, e5, ?_⟩
      · rw [if_neg (by omega)]; simp [Addr.add_none]
      · rw [← e6, List.drop_take, List.drop_drop, List.take_take, Nat.min_eq_left]
        rw [← Nat.mul_sub_right_distrib]
        exact Nat.mul_le_mul_right _ (by omega)

theorem Views.sub {size : Nat} {v : Value} {N : Nat} {xs : List Value} (hv : Views L size v N xs) {i j : Nat} (h1 : i ≤ j) (h2 : j ≤ N) : Views L size (subV size v i j) (j - i) ((xs.drop (i * size)).take ((j - i) * size)) :=
  fun h hs => (hv h hs).sub h1 h2

theorem r_sliceV (h : St n s a w E L) {t el : TypeId} {x : Operand} {lo hi : Option Operand} {v : Value} {N size by_ : Nat} {xs : List Value} (hx : ev E x = some v) (hu : P.underlying t = some (.slice el)) (hs : tsz P el = some (size, by_)) (hv : Views L size v N xs)
    (i j : Nat) (hl : Bnd E lo 0 i) (hh : Bnd E hi N j) (h1 : i ≤ j) (h2 : j ≤ N) :
    (execOp a.eval ⟨dst, .slice t x lo hi none, ty, pos, aft, g⟩).run P w = .ok (.value (subV size v i j)) w := by
  obtain ⟨A, cap, rfl, hc, hcm⟩ := hv.shape h.2
  have hb := run_bounds (P := P) (isS := true) (cap := cap) h.1 hl hh h1 (by omega) w
  simp [execOp, h.1.ev hx, Instr.sliceAt, run_underlying hu, Instr.slice, hb, run_sizeOf hs, subV]

/-- one's own slice, cut: what is ahead of it is let go -/
theorem Own.sub {size : Nat} {v : Value} {N : Nat} {xs : List Value} {h : HM} (ho : (Own size v N xs).P h) {i j : Nat} (h1 : i ≤ j) (h2 : j ≤ N) (hs : 0 < size) : (Own size (subV size v i j) (j - i) ((xs.drop (i * size)).take ((j - i) * size))).P h := by
  have hr := (Own.reads ho).sub h1 h2
  refine ⟨hr.1, ?_⟩
  rcases ho.2 with ⟨rfl, rfl⟩ | ⟨gg, o, cap, cur, e, fr, rfl, e1, e2, e3, e4, e5, e6⟩
  · have : i = 0 := by omega
    have : j = 0 := by omega
    subst i; subst j
    exact .inl ⟨rfl, rfl⟩
  · right
    by_cases hci : cap = i
    · have : j = i := by omega
      subst j
      refine ⟨gg, o, 0, cur, e, fr, ?_, e1, e2, by omega, by simp [maxLen], by omega, by simp⟩
      simp [subV, hci]
    · refine ⟨gg, o + i * size, cap - i, cur, e, fr, ?_, e1, e2, by omega, by omega, ?_, ?_⟩
      · simp [subV, hci, Addr.add_none]
      · rw [Nat.mul_sub_right_distrib]
        have : i * size ≤ cap * size := Nat.mul_le_mul_right _ (by omega)
        omega
      · rw [← e6, List.drop_take, List.drop_drop, List.take_take, Nat.min_eq_left]
        rw [← Nat.mul_sub_right_distrib]
        exact Nat.mul_le_mul_right _ (by omega)

theorem sepL_map {L : List HItem} {i : Nat} {I J : HItem} {h : HM} (hi : L[i]? = some I) (hIJ : ∀ h, I.P h → J.P h) (hs : sepL L h) : sepL (L.set i J) h := by
  have hil : i < L.length := (List.getElem?_eq_some_iff.1 hi).1
  obtain ⟨D, hI, hL⟩ := sepL_front L i I h hi hs
  exact sepL_set hil ⟨D, hIJ _ hI, hL⟩
theorem Sat.map (hw : Sat s w L) (i : Nat) {I J : HItem} (hi : L[i]? = some I) (hIJ : ∀ h, I.P h → J.P h) : Sat s w (L.set i J) :=
  ⟨hw.1, hw.2.1, hw.2.2.1, sepL_map hi hIJ hw.2.2.2⟩

theorem op_sliceOwn (h : St n s a w E L) {t el : TypeId} {x : Operand} {lo hi : Option Operand} {v : Value} {N size by_ : Nat} {xs : List Value} (hx : ev E x = some v) (hu : P.underlying t = some (.slice el)) (hs : tsz P el = some (size, by_)) (it : Nat) (hi' : L[it]? = some (Own size v N xs))
    (i j : Nat) (hl : Bnd E lo 0 i) (hh : Bnd E hi N j) (h1 : i ≤ j) (h2 : j ≤ N) (hsz : Nat.blt 0 size = true) (hd : Nat.blt d n = true)
    (k : ∀ a w, St n s a w ((d, subV size v i j) :: E) (L.set it (Own size (subV size v i j) (j - i) ((xs.drop (i * size)).take ((j - i) * size)))) → next a w) :
    (Oper.mk (some d) (.slice t x lo hi none) ty pos aft g).wp P a w next Q :=
  op_run h (r_sliceV h hx hu hs (Views.own it hi') i j hl hh h1 h2) hd (h.2.map it hi' fun _ ho => Own.sub ho h1 h2 (Nat.le_of_ble_eq_true hsz)) k

/-! ### make -/
theorem op_makeSlice (h : St n s a w E L) {t el : TypeId} {x y : Operand} {k1 k2 : IntKind} {c1 c2 : Int} {size by_ : Nat} {z : Value} (hu : P.underlying t = some (.slice el)) (hs : tsz P el = some (size, by_)) (hz : tzero P el = some z) (hx : ev E x = some (.int k1 c1)) (hy : ev E y = some (.int k2 c2))
    (N M : Nat) (hN : c1 = (N : Int)) (hM : c2 = (M : Int)) (hNM : N ≤ M) (hM2 : M ≤ 4294967296) (hby : Nat.ble by_ 4096 = true) (hpos : Nat.blt 0 size = true) (hd : Nat.blt d n = true)
    (k : ∀ v a w, St n s a w ((d, v) :: E) (Own size v N ((List.range (N * size)).map fun j => z.cells[j % z.cells.size]!) :: L) → next a w) :
    (Oper.mk (some d) (.makeSlice t x y) ty pos aft g).wp P a w next Q := by
  subst hN; subst hM
  have hby' : by_ ≤ 4096 := Nat.le_of_ble_eq_true hby
  have hpos' : 0 < size := Nat.le_of_ble_eq_true hpos
  obtain ⟨inf, hinf, rfl, rfl⟩ := tsz_some hs
  have hz' : inf.zero = some z := by simpa [tzero, hinf] using hz
  have hb : inf.bytes * M ≤ 281474976710656 := Nat.le_trans (Nat.mul_le_mul hby' hM2) (by decide)
  have w1 : IntKind.i64.wrap (N : Int) = (N : Int) := wrap_i64 _ (by omega) (by omega)
  have w2 : IntKind.i64.wrap (M : Int) = (M : Int) := wrap_i64 _ (by omega) (by omega)
  let cells : Array Value := (Array.range (M * inf.size)).map fun j => z.cells[j % z.cells.size]!
  have hcs : cells.size = M * inf.size := by simp [cells]
  have hrun : (Instr.makeSlice t (.int k1 N) (.int k2 M)).run P w = .ok (.slice (some ⟨w.heap.size, 0, none⟩) N M) (w.alloc (.cells cells el)) := by
    have c1 : ¬ ((281474976710656 : Int) < (inf.bytes : Int) * (M : Int)) := by
      have : ((inf.bytes * M : Nat) : Int) ≤ 281474976710656 := by omega
      rw [Int.natCast_mul] at this; omega
    have c3 : ¬ ((M : Int) < 0) := by omega
    have c4 : ¬ ((N : Int) < 0) := by omega
    have c5 : ¬ ((M : Int) < (N : Int)) := by omega
    by_cases hM0 : M = 0
    · subst hM0
      have hN0 : N = 0 := by omega
      subst hN0
      have : cells = #[] := by apply Array.eq_empty_of_size_eq_zero; simpa using hcs
      have wz : IntKind.i64.wrap 0 = 0 := by decide
      simp [Instr.makeSlice, run_underlying hu, asInt, asIntOf, typeInfo, hinf, wz, sizeOf, newRow, this]
      have e0 : Array.range 0 = #[] := Array.eq_empty_of_size_eq_zero (by simp)
      rw [e0, Array.map_empty]
    · have : ¬ (inf.size = 0) := by omega
      simp [Instr.makeSlice, run_underlying hu, asInt, asIntOf, typeInfo, hinf, w1, w2, c1, c3, c4, c5, sizeOf, zeroValue, hz', hM0, this, newRow, cells]
      intro hh
      have h7 : 0 < M * inf.size := Nat.mul_pos (by omega) hpos'
      omega
  refine op_run h (v := .slice (some ⟨w.heap.size, 0, none⟩) N M) (w' := w.alloc (.cells cells el)) (by simp [execOp, h.1.ev hx, h.1.ev hy, hrun]) hd ?_ (k _)
  obtain ⟨e1, e2, e3, D, hI, hL⟩ := h.2.alloc (.cells cells el)
  refine ⟨e1, e2, e3, D, ⟨by simp, .inr ⟨_, 0, M, cells, el, (0, 0), rfl, hI, ?_, hNM, ?_, by omega, ?_⟩⟩, hL⟩
  · intro j _ hh; simp at hh
  · simp [maxLen]; omega
  · simp only [List.drop_zero, cells, Array.toList_map, Array.toList_range, ← List.map_take]
    congr 1
    rw [List.take_range, Nat.min_eq_left (Nat.mul_le_mul_right _ hNM)]

/-! ### copy -/
theorem op_copy (h : St n s a w E L) {t t2 el : TypeId} {x y : Operand} {size by_ N m : Nat} {v vx : Value} {xs news : List Value} (hx : ev E x = some v) (hy : ev E y = some vx) (hu : P.underlying t = some (.slice el)) (hs : tsz P el = some (size, by_)) (i : Nat) (hi : L[i]? = some (Own size v N xs))
    (hlen : ∀ w, (Builtin.lenOf vx).run P w = .ok m w) (hsrc : ∀ s w, Sat s w L → (Builtin.firstCells size (min m N) vx).run P w = .ok (news.take ((min m N) * size)).toArray w) (hnl : news.length = m * size) (h1 : ∀ u ∈ news, u.oneCell' = true)
    (k : ∀ a w, St n s a w (match dst with | some d => (d, .int .i64 ((min m N : Nat) : Int)) :: E | none => E) (L.set i (Own size v N (news.take (min m N * size) ++ xs.drop (min m N * size)))) → next a w) (hd : ∀ d, dst = some d → Nat.blt d n = true) :
    (Oper.mk dst (.call { callee := .builtin .copy, args := #[x, y], argTypes := #[t, t2] }) ty pos aft g).wp P a w next Q := by
  have hil : i < L.length := (List.getElem?_eq_some_iff.1 hi).1
  have hF := h.2.front i hi
  obtain ⟨e1, e2, e3, D, ⟨hxl, hI⟩, hL⟩ := hF
  have hmN : min m N ≤ N := Nat.min_le_right _ _
  have hmm : min m N ≤ m := Nat.min_le_left _ _
  have hnat : ∀ q : Nat, Nat.min m q = min m q := fun _ => rfl
  have htl : (news.take (min m N * size)).length = min m N * size := by
    rw [List.length_take, hnl]; exact Nat.min_eq_left (Nat.mul_le_mul_right _ hmm)
  have fin : ∀ w', (execOp a.eval (Oper.mk dst (.call { callee := .builtin .copy, args := #[x, y], argTypes := #[t, t2] }) ty pos aft g)).run P w = .ok (.value (.int .i64 ((min m N : Nat) : Int))) w' →
      Sat s w' (L.set i (Own size v N (news.take (min m N * size) ++ xs.drop (min m N * size)))) → (Oper.mk dst (.call { callee := .builtin .copy, args := #[x, y], argTypes := #[t, t2] }) ty pos aft g).wp P a w next Q := by
    intro w' hr hw'
    cases dst with
    | none => exact op_run0 h hr hw' k
    | some d => exact op_run h hr (hd d rfl) hw' k
  rcases hI with ⟨rfl, rfl⟩ | ⟨b, o, cap, cur, e, fr, rfl, hb, hfr, hnc, hcm, hcs, hxx⟩
  · have hx0 : xs = [] := List.eq_nil_of_length_eq_zero (by simpa using hxl)
    subst hx0
    have hs0 := hsrc s w h.2
    simp only [Nat.min_zero, Nat.zero_mul, List.take_zero] at hs0
    refine fin w ?_ ?_
    · simp [execOp, resolve, invoke, builtin, h.1.ev hx, h.1.ev hy, Builtin.copy_, run_underlying hu, hlen, hnat, run_sizeOf hs, hs0, goInt]
    · refine ⟨e1, e2, e3, sepL_set hil ⟨D, ⟨by simp, .inl ⟨rfl, rfl⟩⟩, hL⟩⟩
  · have hb' : w.heap[b]? = some (.cells cur e fr) := restr_le b _ hb
    have hs0 := hsrc s w h.2
    have hle : min m N * size ≤ cap * size := Nat.mul_le_mul_right _ (by omega)
    have hle2 : min m N * size ≤ N * size := Nat.mul_le_mul_right _ hmN
    obtain ⟨w', hr, g1, g2, g3, g4, g5⟩ := run_storeCells_gen P b e fr o (news.take (min m N * size)) 0 cur w hb' (by rw [htl]; omega) hfr (fun u hu => h1 u (List.mem_of_mem_take hu))
    refine fin w' ?_ ?_
    · simp [execOp, resolve, invoke, builtin, h.1.ev hx, h.1.ev hy, Builtin.copy_, run_underlying hu, hlen, hnat, run_sizeOf hs, hs0, hr, goInt]
    · have hD : D b = true := by
        simp only [restr] at hb
        split at hb
        · assumption
        · cases hb
      refine ⟨g1.trans e1, g2.trans e2, g3.trans e3, sepL_set hil ⟨D, ⟨?_, .inr ⟨b, o, cap, splice cur (o + 0) (news.take (min m N * size)), e, fr, rfl, ?_, ?_, hnc, hcm, ?_, ?_⟩⟩, ?_⟩⟩
      · rw [List.length_append, htl, List.length_drop, hxl]; omega
      · show restr D (hmOf w') b = _
        simp only [restr, hD, if_true]
        exact g4
      · rw [splice_size _ _ _ (by rw [htl]; omega)]; exact hfr
      · rw [splice_size _ _ _ (by rw [htl]; omega)]; exact hcs
      · have hcl : cur.toList.length = cur.size := Array.length_toList
        have hNc : N * size ≤ cap * size := Nat.mul_le_mul_right _ hnc
        rw [← hxx]
        simp only [splice, Nat.add_zero, List.append_assoc]
        rw [List.drop_append_of_le_length (by simp; omega)]
        have e0 : (cur.toList.take o).drop o = [] := by rw [List.drop_eq_nil_iff]; simp; omega
        rw [e0, List.nil_append, List.take_append, htl, List.take_of_length_le (by rw [htl]; exact hle2)]
        rw [List.drop_take, List.drop_drop]
      · refine sepL_mono _ ?_ hL
        intro q u hk
        simp only [restr] at hk ⊢
        split at hk
        · rename_i hk'
          rw [if_pos hk']
          have : q ≠ b := by intro ee; subst ee; simp [hD] at hk'
          show w'.heap[q]? = some u
          rw [g5 q this]; exact hk
        · cases hk

/-! ### an element of one's own slice is written -/
theorem op_indexAddrOwn (h : St n s a w E L) {t el : TypeId} {x ix : Operand} {size N by_ : Nat} {v : Value} {xs : List Value} {k1 : IntKind} {c : Int} (hx : ev E x = some v) (hi : ev E ix = some (.int k1 c)) (hu : P.underlying t = some (.slice el)) (hs : tsz P el = some (size, by_))
    (it : Nat) (hit : L[it]? = some (Own size v N xs)) (j : Nat) (hj : c = (j : Int)) (hlt : j < N)
    (hd : Nat.blt d n = true) (k : ∀ b o cap a w, v = .slice (some ⟨b, o, none⟩) N cap → St n s a w ((d, .pointer (some ⟨b, o + j * size, none⟩)) :: E) L → next a w) : (Oper.mk (some d) (.indexAddr t x ix) ty pos aft g).wp P a w next Q := by
  have hv : Views L size v N xs := Views.own it hit
  obtain ⟨b, o, cap, rfl, hc⟩ := hv.cell h.2 hlt rfl
  refine op_run h (v := .pointer (some ⟨b, o + j * size, none⟩)) (w' := w) ?_ hd h.2 (k b o cap · · rfl)
  subst hj
  have h3 : ¬ N ≤ j := by omega
  simp [execOp, h.1.ev hx, h.1.ev hi, Instr.indexAt, asIntOf, run_underlying hu, run_sizeOf hs, hlt, h3, Addr.add_none]

theorem op_storeOwn (h : St n s a w E L) {t : TypeId} {x y : Operand} {b o q size N cap by_ : Nat} {u : Value} {xs : List Value} (hx : ev E x = some (.pointer (some ⟨b, q, none⟩))) (hy : ev E y = some u) (hs : tsz P t = some (1, by_)) (h1 : u.oneCell' = true)
    (it : Nat) (hit : L[it]? = some (Own size (.slice (some ⟨b, o, none⟩) N cap) N xs)) (j : Nat) (hq : q = o + j) (hj : j < N * size)
    (k : ∀ a w, St n s a w E (L.set it (Own size (.slice (some ⟨b, o, none⟩) N cap) N (xs.set j u))) → next a w) : (Oper.mk none (.store t x y) ty pos aft g).wp P a w next Q := by
  subst hq
  have hil : it < L.length := (List.getElem?_eq_some_iff.1 hit).1
  have hF := h.2.front it hit
  obtain ⟨e1, e2, e3, D, ⟨hxl, hI⟩, hL⟩ := hF
  rcases hI with ⟨hn, _⟩ | ⟨b', o', cap', cur, e, fr, hvv, hb, hfr, hnc, hcm, hcs, hxx⟩
  · cases hn
  · simp only [Value.slice.injEq, Option.some.injEq, Addr.mk.injEq, and_true, true_and] at hvv
    obtain ⟨⟨rfl, rfl⟩, rfl⟩ := hvv
    have hb' : w.heap[b]? = some (.cells cur e fr) := restr_le b _ hb
    have hNc : N * size ≤ cap * size := Nat.mul_le_mul_right _ hnc
    have hlt : o + j < cur.size := by omega
    have hcells : u.cells = #[u] := by cases u <;> simp_all [Value.oneCell', Value.cells]
    have hst : (storeCells ⟨b, o + j, none⟩ [u] 0).run P w = .ok () (w.setCell ⟨b, o + j, none⟩ u) := by
      have hcell : w.cell? ⟨b, o + j, none⟩ = some cur[o + j] := by simp [World.cell?, hb', hlt]
      have hfz : w.frozen? ⟨b, o + j, none⟩ = false := by
        simp only [World.frozen?, hb']
        have := hfr (o + j) hlt
        simp; omega
      simp [storeCells, Addr.add_none, run_store P w _ u .plain h1, hcell, hfz]
    refine op_run_skip h (w' := w.setCell ⟨b, o + j, none⟩ u) ?_ ?_ k
    · simp [execOp, h.1.ev hx, h.1.ev hy, Instr.storeAt, Instr.sureAddr, storeVar, hcells, run_sizeOf hs]
      rw [hst]; rfl
    · have hD : D b = true := by
        simp only [restr] at hb
        split at hb
        · assumption
        · cases hb
      have hb2 : (w.setCell ⟨b, o + j, none⟩ u).heap[b]? = some (.cells (cur.setIfInBounds (o + j) u) e fr) := by
        simp [World.setCell, Array.getElem?_modify, hb']
      refine ⟨e1, e2, e3, sepL_set hil ⟨D, ⟨by simpa using hxl, .inr ⟨b, o, cap, cur.setIfInBounds (o + j) u, e, fr, rfl, ?_, by simpa using hfr, hnc, hcm, by simpa using hcs, ?_⟩⟩, ?_⟩⟩
      · show restr D (hmOf _) b = _
        simp only [restr, hD, if_true]
        exact hb2
      · rw [← hxx, Array.toList_setIfInBounds, ← List.take_set]
        congr 1
        rw [List.drop_set, if_neg (by omega)]
        congr 1; omega
      · refine sepL_mono _ ?_ hL
        intro q u' hk
        simp only [restr] at hk ⊢
        split at hk
        · rename_i hk'
          rw [if_pos hk']
          have : q ≠ b := by intro ee; subst ee; simp [hD] at hk'
          show (w.setCell ⟨b, o + j, none⟩ u).heap[q]? = some u'
          simp [World.setCell, Array.getElem?_modify, Ne.symm this]
          exact hk
        · cases hk

end
end Go.Sl
