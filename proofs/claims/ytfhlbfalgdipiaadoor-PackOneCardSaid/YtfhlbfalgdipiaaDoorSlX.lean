/- A small library for walks, part X: what comes in, by its form: numbers, texts, arrays, structs, rows of them. No statement is proved here. -/
import Derived.Test.YtfhlbfalgdipiaaDoorSlW
import Derived.ChangeArms
import Derived.Deep.Strs
set_option linter.unusedVariables false
set_option linter.unusedSimpArgs false
namespace Go.Sl
open Go.ChangeShapes Go.WideShapes Go.ChangeAt Go.RowKit

section
variable {P : Program} {H : Type} {enc : TypeId × Value → H} {W : World} {base b0 : Nat} {r : Reach}

/-- whatever is trodden at this type has these cells, for some thing of which φ holds -/
def Opn (P : Program) {H : Type} (enc : TypeId × Value → H) (W : World) {α : Type} (cells : α → List Value) (φ : α → Prop) (t : TypeId) : Prop :=
  ∀ (base fuel : Nat) (cs : List Value) (x : DataW H × List MemPlace), DataW.trod enc P W base (fun _ => true) true fuel t cs = some x → ∃ a, cs = cells a ∧ φ a

theorem opn_u8 {t : TypeId} (ht : P.underlying t = some (.int .u8)) : Opn P enc W (fun b : UInt8 => [bv b]) (fun _ => True) t := by
  intro base fuel cs x h
  obtain ⟨n, rfl, _, wf⟩ := DataW.trod_int ht h
  have hw : 0 ≤ n ∧ n ≤ 255 := by simpa [Lit.wf, IntKind.min, IntKind.max, IntKind.signed, IntKind.bits] using wf
  exact ⟨UInt8.ofNat n.toNat, by rw [u8_of hw], trivial⟩
theorem opn_i64 {t : TypeId} (ht : P.underlying t = some (.int .i64)) : Opn P enc W (fun n : Int => [.int .i64 n]) (fun n => -9223372036854775808 ≤ n ∧ n ≤ 9223372036854775807) t := by
  intro base fuel cs x h
  obtain ⟨n, rfl, _, wf⟩ := DataW.trod_int ht h
  exact ⟨n, rfl, by simpa [Lit.wf, IntKind.min, IntKind.max, IntKind.signed, IntKind.bits] using wf⟩
theorem opn_str {t : TypeId} (ht : P.underlying t = some .string) : Opn P enc W (fun l : List UInt8 => [sv l]) (fun l => l.length ≤ maxLen) t := by
  intro base fuel cs x h
  obtain ⟨s, rfl, _, hl⟩ := DataW.trod_string ht h
  refine ⟨s.data.toList, rfl, ?_⟩
  have e : s.size = s.data.toList.length := by rw [Array.length_toList]; rfl
  show s.data.toList.length ≤ maxLen
  rw [← e]; exact hl
theorem opn_arr8 {t e : TypeId} {N : Nat} (ht : P.underlying t = some (.array N e)) (he : P.underlying e = some (.int .u8)) (hc : P.cellsOf e = 1) (hct : P.cellsOf t = N) : Opn P enc W (cellsA (n := N)) (fun _ => True) t := by
  intro base fuel cs x h
  have hcl : cs.length = N := by
    cases fuel with
    | zero => simp [DataW.trod] at h
    | succ m =>
      rw [DataW.trod_step] at h
      unfold DataW.trodStep at h
      simp only [ht] at h
      split at h
      · rename_i q; rw [q, hct]
      · cases h
  obtain ⟨l, hl, hN⟩ := arr8_of_trod ht he hc hcl h
  exact ⟨⟨l, hN⟩, hl, trivial⟩
theorem list_of {α : Type} (R : Nat → α → Prop) : ∀ n : Nat, (∀ i, i < n → ∃ a, R i a) → ∃ l : List α, l.length = n ∧ ∀ i a, l[i]? = some a → R i a
  | 0, _ => ⟨[], rfl, by simp⟩
  | n + 1, h => by
    obtain ⟨l, hl, hR⟩ := list_of R n (fun i hi => h i (by omega))
    obtain ⟨a, ha⟩ := h n (by omega)
    refine ⟨l ++ [a], by simp [hl], fun i b hb => ?_⟩
    rw [List.getElem?_append] at hb
    split at hb
    · exact hR i b hb
    · rename_i q
      have hi : i = n := by
        have := (List.getElem?_eq_some_iff.1 hb).1
        simp at this; omega
      subst hi
      rw [hl, Nat.sub_self] at hb
      simp at hb; subst hb; exact ha
theorem add_two (a : Addr) (m k : Nat) : (a.add m).add k = a.add (m + k) := by
  unfold Addr.add
  by_cases h1 : m = 0
  · subst h1; simp
  · by_cases h2 : k = 0
    · subst h2; simp
    · simp [h1, h2, Nat.add_assoc]
/-- a struct of three fields that lie so -/
theorem opn_struct3 {α β γ : Type} {ca : α → List Value} {cb : β → List Value} {cc : γ → List Value} {φ : α → Prop} {ψ : β → Prop} {χ : γ → Prop} {t : TypeId} {f0 f1 f2 : Field} {n0 n1 n2 : Nat} (ht : P.underlying t = some (.struct #[f0, f1, f2])) (hc : P.cellsOf t = n0 + n1 + n2)
    (h0 : f0.offset = 0 ∧ P.cellsOf f0.type = n0) (h1 : f1.offset = n0 ∧ P.cellsOf f1.type = n1) (h2 : f2.offset = n0 + n1 ∧ P.cellsOf f2.type = n2) (oa : Opn P enc W ca φ f0.type) (ob : Opn P enc W cb ψ f1.type) (oc : Opn P enc W cc χ f2.type) :
    Opn P enc W (fun x : α × β × γ => ca x.1 ++ cb x.2.1 ++ cc x.2.2) (fun x => φ x.1 ∧ ψ x.2.1 ∧ χ x.2.2) t := by
  intro base fuel cs x h
  obtain ⟨y0, y1, y2, n, _, hl, g0, g1, g2⟩ := Go.Deep.trod_struct3 ht h
  obtain ⟨a, ha, hφ⟩ := oa _ _ _ _ g0
  obtain ⟨b, hb, hψ⟩ := ob _ _ _ _ g1
  obtain ⟨c, hcc, hχ⟩ := oc _ _ _ _ g2
  rw [h0.1, h0.2, List.drop_zero] at ha
  rw [h1.1, h1.2] at hb
  rw [h2.1, h2.2] at hcc
  rw [hc] at hl
  refine ⟨(a, b, c), ?_, hφ, hψ, hχ⟩
  show cs = ca a ++ cb b ++ cc c
  rw [← ha, ← hb, ← hcc, ← List.take_add, ← List.take_add, List.take_of_length_le (by omega)]
/-- a slice -/
theorem opn_slice {α : Type} {cells : α → List Value} {φ : α → Prop} {t e : TypeId} {size : Nat} (ht : P.underlying t = some (.slice e)) (hce : P.cellsOf e = size) (hsz : 0 < size) (hl : ∀ a, (cells a).length = size) (he : Opn P enc W cells φ e) :
    Opn P enc W (fun x : Value × List α => [x.1]) (fun x => Views [Base W] size x.1 x.2.length (x.2.flatMap cells) ∧ ∀ a ∈ x.2, φ a) t := by
  intro base fuel cs x h
  rcases DataW.trod_slice ht h with ⟨rfl, _⟩ | ⟨A, len, cap, elems, rest, n, _, rfl, _, hb, hlc, hcm, hel, hget, _, _⟩
  · exact ⟨(.slice none 0 0, []), rfl, Views.nil _ _, by simp⟩
  · obtain ⟨l, hll, hR⟩ := list_of (fun i a => (∀ j u, (cells a)[j]? = some u → W.cell? (A.add (i * size + j)) = some u) ∧ φ a) len (fun i hi => by
      have hg := hget i hi
      have hi2 : i < elems.length := by omega
      rw [List.getElem?_eq_getElem hi2, hce, Option.bind_eq_some_iff] at hg
      obtain ⟨c, hc1, hc2⟩ := hg
      obtain ⟨a, rfl, ha⟩ := he base n c _ hc2
      obtain ⟨_, _, hc3⟩ := World.cells?_some hc1
      refine ⟨a, fun j u hj => ?_, ha⟩
      have hjs : j < size := by
        have := (List.getElem?_eq_some_iff.1 hj).1
        rwa [hl] at this
      rw [← add_two, hc3 j hjs, hj])
    have hfl : (l.flatMap cells).length = len * size := by
      rw [← hll]
      clear hR hll
      induction l with
      | nil => simp
      | cons y l ih => rw [List.flatMap_cons, List.length_append, hl, ih, List.length_cons, Nat.add_mul, Nat.one_mul, Nat.add_comm]
    refine ⟨(.slice (some A) len cap, l), rfl, ?_, fun a ha => ?_⟩
    · show Views [Base W] size (.slice (some A) len cap) l.length (l.flatMap cells)
      rw [hll]
      refine Views.base (RDh.of_cells hfl hlc hcm hsz fun j u hj => ?_)
      have hjl : j < len * size := by rw [← hfl]; exact (List.getElem?_eq_some_iff.1 hj).1
      have hi : j / size < len := by rw [Nat.div_lt_iff_lt_mul hsz]; exact hjl
      obtain ⟨a, ha⟩ : ∃ a, l[j / size]? = some a := ⟨l[j / size]'(by omega), by simp⟩
      have h1 := flatMap_get hl l (j / size) a ha
      have hm : j % size < size := Nat.mod_lt _ hsz
      have hjd : j / size * size + j % size = j := Nat.div_add_mod' j size
      have h2 : (cells a)[j % size]? = some u := by
        rw [← h1, List.getElem?_take, if_pos hm, List.getElem?_drop, hjd]; exact hj
      have := (hR _ a ha).1 _ u h2
      rwa [hjd] at this
    · obtain ⟨i, hi, rfl⟩ := List.mem_iff_getElem.1 ha
      exact (hR i _ (by simp)).2
/-- an argument -/
theorem opn_arg {α : Type} {cells : α → List Value} {φ : α → Prop} {t : TypeId} {v : Value} {d : DataW H} {ps : List MemPlace} (ho : Opn P enc W cells φ t) (hd : DataW.Trod enc P W base (fun _ => true) true t v d ps) : ∃ a, v.cells.toList = cells a ∧ φ a := by
  obtain ⟨fuel, hf⟩ := hd
  exact ho _ fuel _ _ hf
/-- one that is a struct -/
theorem opn_agg {α : Type} {cells : α → List Value} {φ : α → Prop} {t : TypeId} {fs : Array Field} {v : Value} {d : DataW H} {ps : List MemPlace} (ht : P.underlying t = some (.struct fs)) (hval : Value.okWide P W r b0 t v) (ho : Opn P enc W cells φ t) (hd : DataW.Trod enc P W base (fun _ => true) true t v d ps) :
    ∃ a, v = .agg ⟨cells a⟩ ∧ φ a := by
  simp only [Value.okWide, ht] at hval
  obtain ⟨cs, rfl, _, _⟩ := hval
  obtain ⟨a, ha, hφ⟩ := opn_arg ho hd
  refine ⟨a, ?_, hφ⟩
  have : cs = ⟨cells a⟩ := by apply Array.ext'; exact ha
  rw [this]
end
end Go.Sl
