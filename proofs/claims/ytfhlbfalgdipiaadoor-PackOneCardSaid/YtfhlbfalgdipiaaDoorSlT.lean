/- A small library for walks, part T: arrays of bytes that come in. No statement is proved here. -/
import Derived.Test.YtfhlbfalgdipiaaDoorSlS
set_option linter.unusedVariables false
set_option linter.unusedSimpArgs false
namespace Go.Sl
open Go.ChangeShapes Go.WideShapes Go.ChangeAt Go.RowKit

theorem bytes_of_ints {cs : List Value} (h : ∀ v ∈ cs, ∃ n : Int, v = .int .u8 n ∧ 0 ≤ n ∧ n ≤ 255) : ∃ l : List UInt8, cs = l.map bv := by
  induction cs with
  | nil => exact ⟨[], rfl⟩
  | cons v cs ih =>
    obtain ⟨l, hl⟩ := ih (fun u hu => h u (by simp [hu]))
    obtain ⟨n, rfl, h1, h2⟩ := h v (by simp)
    exact ⟨UInt8.ofNat n.toNat :: l, by rw [List.map_cons, ← hl, u8_of ⟨h1, h2⟩]⟩
section
variable {P : Program} {H : Type} {enc : TypeId × Value → H} {W : World} {base b0 : Nat} {r : Reach} {sp : Nat → Bool} {held : Bool}

theorem mapM_some {α β : Type} (f : α → Option β) : ∀ (L : List α) (xs : List β), L.mapM f = some xs → ∀ x ∈ L, ∃ y, f x = some y
  | [], _, _, x, hx => by simp at hx
  | a :: L, xs, h, x, hx => by
    rw [List.mapM_cons] at h
    simp only [bind, Option.bind_eq_some_iff, pure] at h
    obtain ⟨y, hy, ys, hys, _⟩ := h
    rcases List.mem_cons.1 hx with rfl | hx
    · exact ⟨y, hy⟩
    · exact mapM_some f L ys hys x hx
theorem arr8_of_trod {t e : TypeId} {N fuel : Nat} {cs : List Value} {x : DataW H × List MemPlace} (ht : P.underlying t = some (.array N e)) (he : P.underlying e = some (.int .u8)) (hc : P.cellsOf e = 1) (hcs : cs.length = N)
    (hf : DataW.trod enc P W base sp held fuel t cs = some x) : ∃ l : List UInt8, cs = l.map bv ∧ l.length = N := by
  cases fuel with
  | zero => simp [DataW.trod] at hf
  | succ m =>
    rw [DataW.trod_step] at hf
    unfold DataW.trodStep at hf
    simp only [ht] at hf
    split at hf
    · simp only [Option.map_eq_some_iff] at hf
      obtain ⟨ys, hy, _⟩ := hf
      have hall : ∀ v ∈ cs, ∃ n : Int, v = .int .u8 n ∧ 0 ≤ n ∧ n ≤ 255 := by
        intro v hv
        obtain ⟨i, hi, rfl⟩ := List.mem_iff_getElem.1 hv
        obtain ⟨y, hyi⟩ := mapM_some _ _ _ hy i (by simp; omega)
        rw [hc] at hyi
        obtain ⟨n, e1, _, wf⟩ := DataW.trod_int he hyi
        rw [Nat.mul_one, List.drop_eq_getElem_cons hi, List.take_succ_cons, List.take_zero] at e1
        refine ⟨n, (List.cons.inj e1).1, ?_⟩
        simpa [Lit.wf, IntKind.min, IntKind.max, IntKind.signed, IntKind.bits] using wf
      obtain ⟨l, hl⟩ := bytes_of_ints hall
      exact ⟨l, hl, by rw [hl] at hcs; simpa using hcs⟩
    · cases hf
theorem open_arr8 {t e : TypeId} {N : Nat} {v : Value} {d : DataW H} {ps : List MemPlace} (ht : P.underlying t = some (.array N e)) (he : P.underlying e = some (.int .u8)) (hc : P.cellsOf e = 1) (hct : P.cellsOf t = N) (hval : Value.okWide P W r b0 t v) (hd : DataW.Trod enc P W base sp held t v d ps) :
    ∃ l : List UInt8, v = .agg (arr8 l) ∧ l.length = N := by
  simp only [Value.okWide, ht] at hval
  obtain ⟨cs, rfl, h2, _⟩ := hval
  obtain ⟨fuel, hf⟩ := hd
  obtain ⟨l, hl, hN⟩ := arr8_of_trod (cs := cs.toList) ht he hc (by simp [h2, hct]) hf
  refine ⟨l, ?_, hN⟩
  have : cs = arr8 l := by apply Array.ext'; simp [arr8, hl]
  rw [this]
end
end Go.Sl
