/- A small library for walks, part J: slices of bytes. No statement is proved here. -/
import Derived.Test.YtfhlbfalgdipiaaDoorSlI
set_option linter.unusedVariables false
set_option linter.unusedSimpArgs false
namespace Go.Sl

/-- bytes that are a call's own -/
def OwnB (v : Value) (l : List UInt8) : HItem := Own 1 v l.length (bs l)
def ViewsB (L : List HItem) (v : Value) (l : List UInt8) : Prop := Views L 1 v l.length (bs l)

theorem bs_append (l m : List UInt8) : bs (l ++ m) = bs l ++ bs m := by simp [bs]
theorem bs_take (l : List UInt8) (k : Nat) : (bs l).take k = bs (l.take k) := by simp [bs, List.map_take]
theorem bs_drop (l : List UInt8) (k : Nat) : (bs l).drop k = bs (l.drop k) := by simp [bs, List.map_drop]
theorem bs_one : ∀ (l : List UInt8), ∀ u ∈ bs l, u.oneCell' = true := by
  intro l u hu
  simp only [bs, List.mem_map] at hu
  obtain ⟨x, _, rfl⟩ := hu
  rfl
theorem bs_length (l : List UInt8) : (bs l).length = l.length := by simp [bs]
theorem OwnB_eq {v : Value} {N : Nat} {xs : List Value} {l : List UInt8} (hx : xs = bs l) (hN : N = l.length) : Own 1 v N xs = OwnB v l := by subst hx; subst hN; rfl

theorem Views.oneCell {L : List HItem} {size : Nat} {v : Value} {n : Nat} {xs : List Value} (hv : Views L size v n xs) {s w : World} (hs : Sat s w L) : v.oneCell' = true := by
  obtain ⟨A, cap, rfl, _⟩ := hv.shape hs
  rfl
theorem ViewsB.own {L : List HItem} {v : Value} {l : List UInt8} (i : Nat) (hi : L[i]? = some (OwnB v l)) : ViewsB L v l := Views.own i hi
theorem ViewsB.cons {L : List HItem} {v : Value} {l : List UInt8} (h : ViewsB L v l) (I : HItem) : ViewsB (I :: L) v l := Views.cons h I
theorem ViewsB.sub {L : List HItem} {v : Value} {l : List UInt8} (h : ViewsB L v l) {i j : Nat} (h1 : i ≤ j) (h2 : j ≤ l.length) : ViewsB L (subV 1 v i j) ((l.drop i).take (j - i)) := by
  have := Views.sub h h1 h2
  unfold ViewsB
  have e : ((bs l).drop (i * 1)).take ((j - i) * 1) = bs ((l.drop i).take (j - i)) := by rw [Nat.mul_one, Nat.mul_one, bs_drop, bs_take]
  rw [e] at this
  have e2 : ((l.drop i).take (j - i)).length = j - i := by rw [List.length_take, List.length_drop]; omega
  rw [e2]; exact this
theorem ViewsB.nil (L : List HItem) : ViewsB L (.slice none 0 0) [] := Views.nil L 1
theorem Src.bytes {P : Program} {L : List HItem} {t el : TypeId} {vx : Value} {l : List UInt8} (hu : P.underlying t = some (.slice el)) (hv : ViewsB L vx l) {s w : World} (hs : Sat s w L) : Src P L 1 t vx l.length (bs l) := Src.views hu hv hs

section
variable {P : Program} {n : Nat} {s w : World} {a : Act} {E : List (Nat × Value)} {L : List HItem} {Q : Exit → Act → World → Prop} {next : Act → World → Prop}
variable {d : Nat} {dst : Option Nat} {ty : TypeId} {pos : String} {aft : Array Edge} {g : Option (Nat × Bool)}

/-- one element of one cell more, out of the block that was made for it -/
theorem op_append1 {T : TypeId} {b : Nat} {u : Value} {fr : Nat × Nat} (h : St n s a w E (Blk b (.cells #[u] T fr) :: L)) {t el : TypeId} {x y : Operand} {bytes N : Nat} {z v : Value} {xs : List Value} (hx : ev E x = some v) (hy : ev E y = some (.slice (some ⟨b, 0, none⟩) 1 1)) (hu : P.underlying t = some (.slice el)) (hs : tsz P el = some (1, bytes)) (hz : tzero P el = some z)
    (hzs : z.cells.size = 1) (hby : Nat.ble bytes 4096 = true) (i : Nat) (hi : L[i]? = some (Own 1 v N xs)) (h1 : u.oneCell' = true) (hN : N + 1 ≤ 4294967296)
    (hd : Nat.blt d n = true) (k : ∀ v' a w, St n s a w ((d, v') :: E) (L.set i (Own 1 v' (N + 1) (xs ++ [u]))) → next a w) :
    (Oper.mk (some d) (.call { callee := .builtin .append, args := #[x, y], argTypes := #[t, t] }) ty pos aft g).wp P a w next Q := by
  have hv : Views (Blk b (.cells #[u] T fr) :: L) 1 (.slice (some ⟨b, 0, none⟩) 1 1) 1 [u] := Views.blk 0 rfl rfl rfl rfl rfl
  refine op_append h hx hy hu hs hz hzs hby (i + 1) (by simpa using hi) (Src.views hu hv h.2) (by intro u' hu'; simp at hu'; subst hu'; exact h1) hN hd (fun v' a w h => k v' a w ?_)
  exact h.drop 1
/-- one byte more -/
theorem op_appendb {T : TypeId} {b : Nat} {u : UInt8} {fr : Nat × Nat} (h : St n s a w E (Blk b (.cells #[bv u] T fr) :: L)) {t el : TypeId} {x y : Operand} {bytes : Nat} {z v : Value} {l : List UInt8} (hx : ev E x = some v) (hy : ev E y = some (.slice (some ⟨b, 0, none⟩) 1 1)) (hu : P.underlying t = some (.slice el)) (hs : tsz P el = some (1, bytes)) (hz : tzero P el = some z)
    (hzs : z.cells.size = 1) (hby : Nat.ble bytes 4096 = true) (i : Nat) (hi : L[i]? = some (OwnB v l)) (hN : l.length + 1 ≤ 4294967296)
    (hd : Nat.blt d n = true) (k : ∀ v' a w, St n s a w ((d, v') :: E) (L.set i (OwnB v' (l ++ [u]))) → next a w) :
    (Oper.mk (some d) (.call { callee := .builtin .append, args := #[x, y], argTypes := #[t, t] }) ty pos aft g).wp P a w next Q := by
  refine op_append1 h hx hy hu hs hz hzs hby i hi rfl hN hd (fun v' a w h => k v' a w ?_)
  have e : Own 1 v' (l.length + 1) (bs l ++ [bv u]) = OwnB v' (l ++ [u]) := OwnB_eq (by simp [bs]) (by simp)
  rw [e] at h; exact h
/-- bytes behind bytes -/
theorem op_appendbs (h : St n s a w E L) {t t2 el : TypeId} {x y : Operand} {bytes : Nat} {z v vx : Value} {l m : List UInt8} (hx : ev E x = some v) (hy : ev E y = some vx) (hu : P.underlying t = some (.slice el)) (hs : tsz P el = some (1, bytes)) (hz : tzero P el = some z)
    (hzs : z.cells.size = 1) (hby : Nat.ble bytes 4096 = true) (i : Nat) (hi : L[i]? = some (OwnB v l)) (S : Src P L 1 t2 vx m.length (bs m)) (hN : l.length + m.length ≤ 4294967296)
    (hd : Nat.blt d n = true) (k : ∀ v' a w, St n s a w ((d, v') :: E) (L.set i (OwnB v' (l ++ m))) → next a w) :
    (Oper.mk (some d) (.call { callee := .builtin .append, args := #[x, y], argTypes := #[t, t2] }) ty pos aft g).wp P a w next Q := by
  refine op_append h hx hy hu hs hz hzs hby i hi S (bs_one m) hN hd (fun v' a w h => k v' a w ?_)
  have e : Own 1 v' (l.length + m.length) (bs l ++ bs m) = OwnB v' (l ++ m) := OwnB_eq (by simp [bs]) (by simp)
  rw [e] at h; exact h
/-- bytes behind nil: one's own copy -/
theorem op_appendnbs (h : St n s a w E L) {t t2 el : TypeId} {x y : Operand} {bytes : Nat} {z vx : Value} {m : List UInt8} (hx : ev E x = some (.slice none 0 0)) (hy : ev E y = some vx) (hu : P.underlying t = some (.slice el)) (hs : tsz P el = some (1, bytes)) (hz : tzero P el = some z)
    (hzs : z.cells.size = 1) (hby : Nat.ble bytes 4096 = true) (S : Src P L 1 t2 vx m.length (bs m)) (hN : m.length ≤ 4294967296)
    (hd : Nat.blt d n = true) (k : ∀ v' a w, St n s a w ((d, v') :: E) (OwnB v' m :: L) → next a w) :
    (Oper.mk (some d) (.call { callee := .builtin .append, args := #[x, y], argTypes := #[t, t2] }) ty pos aft g).wp P a w next Q :=
  op_appendNil h hx hy hu hs hz hzs hby S (bs_one m) hN hd k
theorem op_s2bb (h : St n s a w E L) {t u el : TypeId} {x : Operand} {l : List UInt8} (hx : ev E x = some (.string ⟨⟨l⟩⟩)) (ht : P.underlying t = some .string) (hu : P.underlying u = some (.slice el)) (he : P.underlying el = some (.int .u8))
    (hl : l.length ≤ 4294967296) (hd : Nat.blt d n = true) (k : ∀ v a w, St n s a w ((d, v) :: E) (OwnB v l :: L) → next a w) : (Oper.mk (some d) (.convert t u x) ty pos aft g).wp P a w next Q :=
  op_s2b h hx ht hu he hl hd k
/-- a byte that is read -/
theorem op_indexAddrb (h : St n s a w E L) {t el : TypeId} {x ix : Operand} {by_ : Nat} {v : Value} {l : List UInt8} {k1 : IntKind} {c : Int} (hx : ev E x = some v) (hi : ev E ix = some (.int k1 c)) (hu : P.underlying t = some (.slice el)) (hs : tsz P el = some (1, by_))
    (hv : ViewsB L v l) (j : Nat) (hj : c = (j : Int)) {u : UInt8} (hlj : l[j]? = some u)
    (hd : Nat.blt d n = true) (k : ∀ p a w, CellsAt L p [bv u] → St n s a w ((d, .pointer (some p)) :: E) L → next a w) : (Oper.mk (some d) (.indexAddr t x ix) ty pos aft g).wp P a w next Q := by
  have hlt : j < l.length := (List.getElem?_eq_some_iff.1 hlj).1
  refine op_indexAddr h hx hi hu hs hv j hj hlt ?_ hd k
  have : (bs l)[j]? = some (bv u) := by simp [bs, hlj]
  rw [Nat.mul_one, List.drop_eq_getElem_cons (by simpa [bs] using hlt)]
  have e : (bs l)[j]'(by simpa [bs] using hlt) = bv u := (List.getElem?_eq_some_iff.1 this).2
  simp [e]
theorem r_b2sb (h : St n s a w E L) {t u el : TypeId} {x : Operand} {v : Value} {l : List UInt8} (hx : ev E x = some v) (ht : P.underlying t = some (.slice el)) (he : P.underlying el = some (.int .u8)) (hu : P.underlying u = some .string)
    (hv : ViewsB L v l) : (execOp a.eval ⟨dst, .convert t u x, ty, pos, aft, g⟩).run P w = .ok (.value (sv l)) w := r_b2s h hx ht he hu hv
theorem r_lenB (h : St n s a w E L) {t el : TypeId} {x : Operand} {v : Value} {l : List UInt8} (hx : ev E x = some v) (hu : P.underlying t = some (.slice el)) (hv : ViewsB L v l) :
    (execOp a.eval ⟨dst, .call { callee := .builtin .len, args := #[x], argTypes := #[t] }, ty, pos, aft, g⟩).run P w = .ok (.value (.int .i64 (l.length : Int))) w := r_lenV h hx hu hv
theorem r_sliceB (h : St n s a w E L) {t el : TypeId} {x : Operand} {lo hi : Option Operand} {v : Value} {l : List UInt8} {by_ : Nat} (hx : ev E x = some v) (hu : P.underlying t = some (.slice el)) (hs : tsz P el = some (1, by_)) (hv : ViewsB L v l)
    (i j : Nat) (hl : Bnd E lo 0 i) (hh : Bnd E hi l.length j) (h1 : i ≤ j) (h2 : j ≤ l.length) :
    (execOp a.eval ⟨dst, .slice t x lo hi none, ty, pos, aft, g⟩).run P w = .ok (.value (subV 1 v i j)) w := r_sliceV h hx hu hs hv i j hl hh h1 h2
/-- one's own bytes, cut -/
theorem op_sliceOwnb (h : St n s a w E L) {t el : TypeId} {x : Operand} {lo hi : Option Operand} {v : Value} {by_ : Nat} {l : List UInt8} (hx : ev E x = some v) (hu : P.underlying t = some (.slice el)) (hs : tsz P el = some (1, by_)) (it : Nat) (hi' : L[it]? = some (OwnB v l))
    (i j : Nat) (hl : Bnd E lo 0 i) (hh : Bnd E hi l.length j) (h1 : i ≤ j) (h2 : j ≤ l.length) (hd : Nat.blt d n = true)
    (k : ∀ v' a w, St n s a w ((d, v') :: E) (L.set it (OwnB v' ((l.drop i).take (j - i)))) → next a w) :
    (Oper.mk (some d) (.slice t x lo hi none) ty pos aft g).wp P a w next Q := by
  refine op_sliceOwn h hx hu hs it hi' i j hl hh h1 h2 rfl hd (fun a w h => k (subV 1 v i j) a w ?_)
  have e : Own 1 (subV 1 v i j) (j - i) (((bs l).drop (i * 1)).take ((j - i) * 1)) = OwnB (subV 1 v i j) ((l.drop i).take (j - i)) :=
    OwnB_eq (by rw [Nat.mul_one, Nat.mul_one, bs_drop, bs_take]) (by rw [List.length_take, List.length_drop]; omega)
  rw [e] at h; exact h
/-- a slice written out is one's own -/
theorem St.toOwnb {b : Nat} {vs : Array Value} {T : TypeId} {fr : Nat × Nat} (h : St n s a w E (Blk b (.cells vs T fr) :: L)) (l : List UInt8) (hf : NF fr vs.size) (hx : vs.toList = bs l) (hm : Nat.ble l.length maxLen = true) :
    St n s a w E (OwnB (.slice (some ⟨b, 0, none⟩) l.length l.length) l :: L) :=
  ⟨h.1, h.2.toOwn 1 l.length hf (Nat.le_of_ble_eq_true hm) hx (by rw [Nat.mul_one, ← bs_length l, ← hx]; simp)⟩
theorem NF.zero (k : Nat) : NF (0, 0) k := by intro j _ h; simp at h
/-- a nil slice as one's own -/
theorem St.addNil (h : St n s a w E L) (size : Nat) : St n s a w E (Own size (.slice none 0 0) 0 [] :: L) :=
  ⟨h.1, h.2.1, h.2.2.1, h.2.2.2.1, fun _ => false, ⟨by simp, .inl ⟨rfl, rfl⟩⟩, sepL_mono L (fun b o hb => by simpa [restr] using hb) h.2.2.2.2⟩
theorem St.addNilb (h : St n s a w E L) : St n s a w E (OwnB (.slice none 0 0) [] :: L) := h.addNil 1

/-- the places of a struct's fields: offset, cells -/
def fplaces (P : Program) (t : TypeId) : Option (List (Nat × Nat)) := match P.underlying t with
  | some (.struct fs) => fs.toList.mapM fun f => (tsz P f.type).map fun q => (f.offset, q.1)
  | _ => none

theorem run_places (P : Program) : ∀ (fs : List Field) (pl : List (Nat × Nat)) (w : World), fs.mapM (fun f => (tsz P f.type).map fun q => (f.offset, q.1)) = some pl →
    (fs.mapM (fun f => (do pure (f.offset, ← sizeOf f.type) : Sem (Nat × Nat)))).run P w = .ok pl w
  | [], pl, w, h => by simp at h; simp [h]
  | f :: fs, pl, w, h => by
    rw [List.mapM_cons] at h
    cases e : tsz P f.type with
    | none => simp [e] at h
    | some q =>
      simp only [e, Option.map_some, Option.bind_eq_bind, Option.bind_some] at h
      cases e2 : fs.mapM (fun f => (tsz P f.type).map fun q => (f.offset, q.1)) with
      | none => simp [e2] at h
      | some pl2 =>
        simp only [e2, Option.bind_some, Option.pure_def, Option.some.injEq] at h
        subst h
        have ih := run_places P fs pl2 w e2
        rw [List.mapM_cons]
        simp only [Sem.run_bind, run_sizeOf (a := q.1) (b := q.2) (by simpa using e), Result.andThen_ok, Sem.run_pure, ih]

/-- a struct written out -/
theorem r_build (h : St n s a w E L) {t : TypeId} {ps : List (Nat × Operand)} {vs : List (Nat × Value)} {fs : Array Field} {pl : List (Nat × Nat)} {z : Value} {cells : Array Value} (hu : P.underlying t = some (.struct fs)) (hz : tzero P t = some z) (hp : fplaces P t = some pl) (hx : evp E ps = some vs)
    (hc : Instr.fill (fun i : Nat => pl[i]?) z.cells vs = some cells) : (execOp a.eval ⟨dst, .build t ps.toArray, ty, pos, aft, g⟩).run P w = .ok (.value (.agg cells)) w := by
  have h3 : (ps.toArray.map fun (i, x) => (i, a.eval x)).toList = vs := by simpa using h.1.evp hx
  have hpl : (fs.mapM (fun f => (do pure (f.offset, ← sizeOf f.type) : Sem (Nat × Nat)))).run P w = .ok pl.toArray w := by
    have : fplaces P t = fs.toList.mapM (fun f => (tsz P f.type).map fun q => (f.offset, q.1)) := by simp [fplaces, hu]
    rw [this] at hp
    have hr := run_places P fs.toList pl w hp
    rw [Array.mapM_eq_mapM_toList]
    simp only [Sem.run_map, hr, Result.andThen_ok]
  simp only [execOp, Instr.build, Sem.run_bind, run_zeroValue hz, Result.andThen_ok, run_underlying hu, hpl, h3]
  have e : (fun x : Nat => pl.toArray[x]?) = (fun i : Nat => pl[i]?) := by funext i; simp
  rw [e, hc]
  rfl
/-- an array written out -/
theorem r_buildA (h : St n s a w E L) {t el : TypeId} {ps : List (Nat × Operand)} {vs : List (Nat × Value)} {N size by_ : Nat} {z : Value} {cells : Array Value} (hu : P.underlying t = some (.array N el)) (hz : tzero P t = some z) (hs : tsz P el = some (size, by_)) (hx : evp E ps = some vs)
    (hc : Instr.fill (fun i => some (i * size, size)) z.cells vs = some cells) : (execOp a.eval ⟨dst, .build t ps.toArray, ty, pos, aft, g⟩).run P w = .ok (.value (.agg cells)) w := by
  have h3 : (ps.toArray.map fun (i, x) => (i, a.eval x)).toList = vs := by simpa using h.1.evp hx
  simp only [execOp, Instr.build, Sem.run_bind, run_zeroValue hz, Result.andThen_ok, run_underlying hu, run_sizeOf hs, h3, hc]
  rfl
theorem r_makeFunc (h : St n s a w E L) {fn : Fn} {fs cs : List Operand} {vf vc : List Value} (hf : evs E fs = some vf) (hc : evs E cs = some vc) :
    (execOp a.eval ⟨dst, .makeFunc fn fs.toArray cs.toArray, ty, pos, aft, g⟩).run P w = .ok (.value (.func fn vf.toArray vc.toArray)) w := by
  simp [execOp, Instr.makeFunc, h.1.evs hf, h.1.evs hc]
end
end Go.Sl
