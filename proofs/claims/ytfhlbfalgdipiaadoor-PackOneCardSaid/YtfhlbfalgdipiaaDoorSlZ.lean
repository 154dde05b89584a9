/- A small library for walks, part Z: structs of one cell a field: compared, and as they come in. No statement is proved here. -/
import Derived.Test.YtfhlbfalgdipiaaDoorSlY
import Derived.Laws.StructEq
set_option linter.unusedVariables false
set_option linter.unusedSimpArgs false
namespace Go.Sl
open Go.ChangeShapes Go.WideShapes Go.ChangeAt Go.RowKit

section
variable {P : Program} {n : Nat} {s w : World} {a : Act} {E : List (Nat × Value)} {L : List HItem} {ty : TypeId} {pos : String} {dst : Option Nat} {aft : Array Edge} {g : Option (Nat × Bool)}

/-- the fields of two structs, side by side: are they alike? -/
inductive FlatEq (P : Program) : List Field → Nat → List Value → List Value → Bool → Prop
  | nil {o : Nat} : FlatEq P [] o [] [] true
  | int {f : Field} {fs : List Field} {o : Nat} {us vs : List Value} {b : Bool} {k : IntKind} {x y : Int} (hu : P.underlying f.type = some (.int k)) (ho : f.offset = o) (hn : (f.name != "_") = true) (h : FlatEq P fs (o + 1) us vs b) :
      FlatEq P (f :: fs) o (.int k x :: us) (.int k y :: vs) (decide (x = y) && b)
  | str {f : Field} {fs : List Field} {o : Nat} {us vs : List Value} {b : Bool} {l m : List UInt8} (hu : P.underlying f.type = some .string) (ho : f.offset = o) (hn : (f.name != "_") = true) (h : FlatEq P fs (o + 1) us vs b) :
      FlatEq P (f :: fs) o (sv l :: us) (sv m :: vs) (decide (l = m) && b)

theorem run_part1 {t : TypeId} {dd : TypeDesc} (hu : P.underlying t = some dd) (hf : TypeDesc.flat dd = true) {xs : Array Value} {o : Nat} {v : Value} (hv : xs[o]? = some v) (w : World) : (part t xs o).run P w = .ok v w := by
  simp [part, run_isAgg hu, hf, hv]
theorem run_eqFields {d : Nat} {w : World} : ∀ {fs : List Field} {o : Nat} {us vs : List Value} {b : Bool}, FlatEq P fs o us vs b → ∀ {xs ys : Array Value}, (∀ i u, us[i]? = some u → xs[o + i]? = some u) → (∀ i u, vs[i]? = some u → ys[o + i]? = some u) →
    (Op.eqFields (d + 1) xs ys fs).run P w = .ok b w := by
  intro fs o us vs b h
  induction h with
  | nil => intro xs ys _ _; simp [Op.eqFields]
  | @int f fs o us vs b k x y hu ho hn h ih =>
    intro xs ys hx hy
    have e1 : xs[f.offset]? = some (.int k x) := by rw [ho]; exact hx 0 _ rfl
    have e2 : ys[f.offset]? = some (.int k y) := by rw [ho]; exact hy 0 _ rfl
    have ih2 := ih (xs := xs) (ys := ys) (fun i u hi => by rw [show o + 1 + i = o + (i + 1) by omega]; exact hx (i + 1) u hi) (fun i u hi => by rw [show o + 1 + i = o + (i + 1) by omega]; exact hy (i + 1) u hi)
    have hn' : f.name ≠ "_" := by simpa using hn
    rw [Op.eqFields, if_pos hn']
    simp only [Sem.run_bind, run_part1 hu rfl e1, run_part1 hu rfl e2, Result.andThen_ok, run_equalIn_int w d f.type k k x y hu]
    by_cases q : x = y
    · subst q; simp [ih2]
    · have hb : (x == y) = false := by simpa using q
      simp [hb, q]
  | @str f fs o us vs b l m hu ho hn h ih =>
    intro xs ys hx hy
    have e1 : xs[f.offset]? = some (.string ⟨⟨l⟩⟩) := by rw [ho]; exact hx 0 _ rfl
    have e2 : ys[f.offset]? = some (.string ⟨⟨m⟩⟩) := by rw [ho]; exact hy 0 _ rfl
    have ih2 := ih (xs := xs) (ys := ys) (fun i u hi => by rw [show o + 1 + i = o + (i + 1) by omega]; exact hx (i + 1) u hi) (fun i u hi => by rw [show o + 1 + i = o + (i + 1) by omega]; exact hy (i + 1) u hi)
    have hn' : f.name ≠ "_" := by simpa using hn
    rw [Op.eqFields, if_pos hn']
    simp only [Sem.run_bind, run_part1 hu rfl e1, run_part1 hu rfl e2, Result.andThen_ok, run_equalIn_string w d f.type _ _ hu, ByteArray.toList_eq]
    by_cases q : l = m
    · subst q; simp [ih2]
    · have hb : (l == m) = false := by simpa using q
      simp [hb, q]
theorem run_equal_flat {t : TypeId} {us vs : List Value} {b : Bool} (ht : P.underlying t = some (.struct (P.fieldsOf t))) (hp : P.stoodInHeld t = false) (h : FlatEq P (P.fieldsOf t).toList 0 us vs b) (w : World) :
    (Op.equal t (.agg ⟨us⟩) (.agg ⟨vs⟩)).run P w = .ok b w := by
  show (Op.equalIn (9999 + 1) t (.agg ⟨us⟩) (.agg ⟨vs⟩)).run P w = _
  rw [run_equalIn_struct w 9999 t _ _ ht hp]
  exact run_eqFields h (fun i u hi => by rw [Nat.zero_add]; simpa using hi) (fun i u hi => by rw [Nat.zero_add]; simpa using hi)
theorem r_streq2 (h : St n s a w E L) {xt yt : TypeId} {x y : Operand} {us vs : List Value} {b : Bool} (hx : ev E x = some (.agg ⟨us⟩)) (hy : ev E y = some (.agg ⟨vs⟩)) (ht : P.underlying xt = some (.struct (P.fieldsOf xt))) (hp : P.stoodInHeld xt = false)
    (hm : P.eqGuardType P.depth xt = false) (hq : FlatEq P (P.fieldsOf xt).toList 0 us vs b) : (execOp a.eval ⟨dst, .binOp .eql xt x y yt, ty, pos, aft, g⟩).run P w = .ok (.value (.bool b)) w := by
  refine r_binv h hx hy (fun w => ⟨run_eqGuard_agg w _ _ _ _ _ _ hm, ?_⟩)
  show ((Op.equal xt (.agg ⟨us⟩) (.agg ⟨vs⟩) >>= fun r => pure (Value.bool r)).run P w) = _
  rw [Sem.run_bind, run_equal_flat ht hp hq]
  rfl
theorem r_strne2 (h : St n s a w E L) {xt yt : TypeId} {x y : Operand} {us vs : List Value} {b : Bool} (hx : ev E x = some (.agg ⟨us⟩)) (hy : ev E y = some (.agg ⟨vs⟩)) (ht : P.underlying xt = some (.struct (P.fieldsOf xt))) (hp : P.stoodInHeld xt = false)
    (hm : P.eqGuardType P.depth xt = false) (hq : FlatEq P (P.fieldsOf xt).toList 0 us vs b) : (execOp a.eval ⟨dst, .binOp .neq xt x y yt, ty, pos, aft, g⟩).run P w = .ok (.value (.bool (!b))) w := by
  refine r_binv h hx hy (fun w => ⟨run_eqGuard_agg w _ _ _ _ _ _ hm, ?_⟩)
  show ((Op.equal xt (.agg ⟨us⟩) (.agg ⟨vs⟩) >>= fun r => pure (Value.bool (!r))).run P w) = _
  rw [Sem.run_bind, run_equal_flat ht hp hq]
  rfl
end

section
variable {P : Program} {H : Type} {enc : TypeId × Value → H} {W : World} {base b0 : Nat} {r : Reach}
/-- a struct of one cell a field: what is trodden at each -/
theorem trod_flat {t : TypeId} {fs : Array Field} {sp : Nat → Bool} {held : Bool} {fuel : Nat} {cs : List Value} {x : DataW H × List MemPlace} (ht : P.underlying t = some (.struct fs)) (hc : P.cellsOf t = fs.size) (h : DataW.trod enc P W base sp held fuel t cs = some x) :
    cs.length = fs.size ∧ ∀ (i : Nat) (f : Field), fs[i]? = some f → f.offset = i → P.cellsOf f.type = 1 → ∃ v y m, cs[i]? = some v ∧ DataW.trod enc P W base sp held m f.type [v] = some y := by
  obtain ⟨xs, m, _, rfl, hl, hlen, hf⟩ := DataW.trod_struct ht h
  have hl2 : cs.length = fs.size := by rw [hl, hc]
  refine ⟨hl2, fun i f hi ho h1 => ?_⟩
  have hlt : i < fs.size := (Array.getElem?_eq_some_iff.1 hi).1
  have hg := hf i f (by simpa using hi)
  rw [ho, h1] at hg
  have e : (cs.drop i).take 1 = [cs[i]'(by omega)] := by
    rw [List.drop_eq_getElem_cons (by omega)]; rfl
  rw [e, List.getElem?_eq_getElem (by omega)] at hg
  exact ⟨cs[i]'(by omega), _, m, by simp, hg⟩
end
end Go.Sl
