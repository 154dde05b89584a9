/- A small library for walks, part L: what comes in. No statement is proved here. -/
import Derived.Test.YtfhlbfalgdipiaaDoorSlK
import Derived.ProofKit
import Derived.OpenShut
import Derived.ShutString
import Derived.SliceStrings
set_option linter.unusedVariables false
set_option linter.unusedSimpArgs false
namespace Go.Sl
open Go.ChangeShapes Go.WideShapes Go.ChangeAt Go.RowKit

/-! ### What comes in -/
theorem RDh.of_cells {W : World} {a : Addr} {size n cap : Nat} {xs : List Value} (hl : xs.length = n * size) (h1 : n ≤ cap) (h2 : cap ≤ maxLen) (hp : 0 < size) (hc : ∀ j u, xs[j]? = some u → W.cell? (a.add j) = some u) : RDh size (.slice (some a) n cap) n xs (hmOf W) := by
  refine ⟨hl, some a, cap, rfl, h1, h2, ?_⟩
  by_cases hn : n = 0
  · exact .inl hn
  · right
    have hx : 0 < xs.length := by rw [hl]; exact Nat.mul_pos (by omega) hp
    have h0 := hc 0 xs[0] (by simp [hx])
    obtain ⟨b, o, sp⟩ := a
    have hsp : sp = none := by simpa [Addr.add] using World.cell?_spot h0
    subst hsp
    rw [Addr.add_none] at h0
    obtain ⟨cur, e, fr, hb⟩ : ∃ cur e fr, W.heap[b]? = some (.cells cur e fr) := by
      simp only [World.cell?] at h0
      split at h0
      · rename_i c e fr hh; exact ⟨c, e, fr, hh⟩
      · cases h0
    refine ⟨b, o, cur, e, fr, rfl, hb, ?_⟩
    have hcur : ∀ j u, xs[j]? = some u → cur[o + j]? = some u := by
      intro j u hj
      have := hc j u hj
      rw [Addr.add_none] at this
      simpa [World.cell?, hb] using this
    apply List.ext_getElem?
    intro j
    rw [List.getElem?_take, List.getElem?_drop, Array.getElem?_toList]
    by_cases hj : j < n * size
    · rw [if_pos hj]
      have hjx : j < xs.length := by omega
      rw [hcur j xs[j] (by simp [hjx])]
      simp [hjx]
    · rw [if_neg hj]
      rw [List.getElem?_eq_none (by omega)]

theorem Views.base {W : World} {size n : Nat} {v : Value} {xs : List Value} (hr : RDh size v n xs (hmOf W)) : Views [Base W] size v n xs := by
  refine Views.of_mem 0 rfl (fun h hb => ?_)
  obtain ⟨h1, A, cap, h2, h3, h4, h5⟩ := hr
  refine ⟨h1, A, cap, h2, h3, h4, ?_⟩
  rcases h5 with h5 | ⟨g, o, cur, e, fr, h6, h7, h8⟩
  · exact .inl h5
  · exact .inr ⟨g, o, cur, e, fr, h6, (hb g (heap_lt h7)).trans h7, h8⟩

def ints (l : List Int) : List Value := l.map (Value.int .i64)
def svs (l : List (List UInt8)) : List Value := l.map sv

section
variable {P : Program} {H : Type} {enc : TypeId × Value → H} {W : World} {base b0 : Nat} {r : Reach}

theorem open_i64 {t : TypeId} {v : Value} {d : DataW H} {ps : List MemPlace} {sp : Nat → Bool} {held : Bool} (ht : P.underlying t = some (.int .i64)) (hval : Value.okWide P W r b0 t v) (hd : DataW.Trod enc P W base sp held t v d ps) :
    ∃ n : Int, v = .int .i64 n ∧ -9223372036854775808 ≤ n ∧ n ≤ 9223372036854775807 := by
  obtain ⟨n, rfl, _, _, wn⟩ := open_int ht hval hd
  have : -9223372036854775808 ≤ n ∧ n ≤ 9223372036854775807 := by simpa [Lit.wf, IntKind.min, IntKind.max, IntKind.signed, IntKind.bits] using wn
  exact ⟨n, rfl, this.1, this.2⟩
theorem open_i8 {t : TypeId} {v : Value} {d : DataW H} {ps : List MemPlace} {sp : Nat → Bool} {held : Bool} (ht : P.underlying t = some (.int .i8)) (hval : Value.okWide P W r b0 t v) (hd : DataW.Trod enc P W base sp held t v d ps) :
    ∃ n : Int, v = .int .i8 n ∧ -128 ≤ n ∧ n ≤ 127 := by
  obtain ⟨n, rfl, _, _, wn⟩ := open_int ht hval hd
  have : -128 ≤ n ∧ n ≤ 127 := by simpa [Lit.wf, IntKind.min, IntKind.max, IntKind.signed, IntKind.bits] using wn
  exact ⟨n, rfl, this.1, this.2⟩
theorem u8_of {n : Int} (h : 0 ≤ n ∧ n ≤ 255) : Value.int .u8 n = bv (UInt8.ofNat n.toNat) := by
  simp only [bv]
  rw [UInt8.toNat_ofNat', Nat.mod_eq_of_lt (by omega)]
  congr 1; omega
theorem open_u8 {t : TypeId} {v : Value} {d : DataW H} {ps : List MemPlace} {sp : Nat → Bool} {held : Bool} (ht : P.underlying t = some (.int .u8)) (hval : Value.okWide P W r b0 t v) (hd : DataW.Trod enc P W base sp held t v d ps) : ∃ n : UInt8, v = bv n := by
  obtain ⟨n, rfl, _, _, wn⟩ := open_int ht hval hd
  have : 0 ≤ n ∧ n ≤ 255 := by simpa [Lit.wf, IntKind.min, IntKind.max, IntKind.signed, IntKind.bits] using wn
  exact ⟨_, u8_of this⟩
theorem open_u16 {t : TypeId} {v : Value} {d : DataW H} {ps : List MemPlace} {sp : Nat → Bool} {held : Bool} (ht : P.underlying t = some (.int .u16)) (hval : Value.okWide P W r b0 t v) (hd : DataW.Trod enc P W base sp held t v d ps) : ∃ n : UInt16, v = w16 n := by
  obtain ⟨n, rfl, _, _, wn⟩ := open_int ht hval hd
  have : 0 ≤ n ∧ n ≤ 65535 := by simpa [Lit.wf, IntKind.min, IntKind.max, IntKind.signed, IntKind.bits] using wn
  refine ⟨UInt16.ofNat n.toNat, ?_⟩
  simp only [w16]
  rw [UInt16.toNat_ofNat', Nat.mod_eq_of_lt (by omega)]
  congr 1; omega
theorem open_u32 {t : TypeId} {v : Value} {d : DataW H} {ps : List MemPlace} {sp : Nat → Bool} {held : Bool} (ht : P.underlying t = some (.int .u32)) (hval : Value.okWide P W r b0 t v) (hd : DataW.Trod enc P W base sp held t v d ps) : ∃ n : UInt32, v = w32 n := by
  obtain ⟨n, rfl, _, _, wn⟩ := open_int ht hval hd
  have : 0 ≤ n ∧ n ≤ 4294967295 := by simpa [Lit.wf, IntKind.min, IntKind.max, IntKind.signed, IntKind.bits] using wn
  refine ⟨UInt32.ofNat n.toNat, ?_⟩
  simp only [w32]
  rw [UInt32.toNat_ofNat', Nat.mod_eq_of_lt (by omega)]
  congr 1; omega
theorem open_boolV {t : TypeId} {v : Value} {d : DataW H} {ps : List MemPlace} {sp : Nat → Bool} {held : Bool} (ht : P.underlying t = some .bool) (hval : Value.okWide P W r b0 t v) (hd : DataW.Trod enc P W base sp held t v d ps) : ∃ b : Bool, v = .bool b := by
  obtain ⟨b, rfl, _⟩ := open_bool ht hval hd
  exact ⟨b, rfl⟩
theorem open_text {t : TypeId} {v : Value} {d : DataW H} {ps : List MemPlace} {sp : Nat → Bool} {held : Bool} (ht : P.underlying t = some .string) (hval : Value.okWide P W r b0 t v) (hd : DataW.Trod enc P W base sp held t v d ps) :
    ∃ l : List UInt8, v = sv l ∧ l.length ≤ maxLen := by
  obtain ⟨s, rfl, _, _, hs⟩ := Go.ChangeMaps.open_string ht hval hd
  exact ⟨s.data.toList, rfl, hs⟩

theorem open_intsV {t e : TypeId} {k : IntKind} {v : Value} {d : DataW H} {ps : List MemPlace} (ht : P.underlying t = some (.slice e)) (he : P.underlying e = some (.int k)) (hc : P.cellsOf e = 1) (hval : Value.okWide P W r b0 t v) (hd : DataW.Trod enc P W base (fun _ => true) true t v d ps) :
    ∃ zs : List Int, Views [Base W] 1 v zs.length (zs.map (Value.int k)) ∧ ∀ n ∈ zs, (Lit.int k n).wf = true := by
  obtain ⟨a, len, cap, rfl⟩ := okWide_slice ht hval
  obtain ⟨fuel, hf⟩ := hd
  rcases open_ints ht he hc hf with ⟨hcs, _⟩ | ⟨x, l, c, zs, hcs, _, hl, hm, hz, _, hcell, hwz⟩
  · simp [Value.cells] at hcs
    obtain ⟨rfl, rfl, rfl⟩ := hcs
    exact ⟨[], Views.nil _ _, by simp⟩
  · simp [Value.cells] at hcs
    obtain ⟨rfl, rfl, rfl⟩ := hcs
    simp only [if_true] at hz
    have hlen : (zs.take len).length = len := by rw [List.length_take]; omega
    refine ⟨zs.take len, ?_, fun n hn => hwz n (List.mem_of_mem_take hn)⟩
    rw [hlen]
    refine Views.base (RDh.of_cells (by simp; omega) hl hm (by omega) (fun j u hj => ?_))
    rw [List.getElem?_map] at hj
    cases e1 : (zs.take len)[j]? with
    | none => simp [e1] at hj
    | some n =>
      simp only [e1, Option.map_some, Option.some.injEq] at hj
      subst hj
      have hjl : j < len := by rw [List.getElem?_take] at e1; split at e1 <;> simp_all
      have := hcell j (by omega)
      rw [this]
      rw [List.getElem?_take, if_pos hjl] at e1
      simp [List.getD_eq_getElem?_getD, e1]
theorem open_i64s {t e : TypeId} {v : Value} {d : DataW H} {ps : List MemPlace} (ht : P.underlying t = some (.slice e)) (he : P.underlying e = some (.int .i64)) (hc : P.cellsOf e = 1) (hval : Value.okWide P W r b0 t v) (hd : DataW.Trod enc P W base (fun _ => true) true t v d ps) :
    ∃ l : List Int, Views [Base W] 1 v l.length (ints l) ∧ ∀ n ∈ l, -9223372036854775808 ≤ n ∧ n ≤ 9223372036854775807 := by
  obtain ⟨zs, h1, h2⟩ := open_intsV ht he hc hval hd
  exact ⟨zs, h1, fun n hn => by simpa [Lit.wf, IntKind.min, IntKind.max, IntKind.signed, IntKind.bits] using h2 n hn⟩
theorem open_bytes {t e : TypeId} {v : Value} {d : DataW H} {ps : List MemPlace} (ht : P.underlying t = some (.slice e)) (he : P.underlying e = some (.int .u8)) (hc : P.cellsOf e = 1) (hval : Value.okWide P W r b0 t v) (hd : DataW.Trod enc P W base (fun _ => true) true t v d ps) :
    ∃ l : List UInt8, ViewsB [Base W] v l := by
  obtain ⟨zs, h1, h2⟩ := open_intsV ht he hc hval hd
  refine ⟨zs.map fun n => UInt8.ofNat n.toNat, ?_⟩
  have e1 : bs (zs.map fun n => UInt8.ofNat n.toNat) = zs.map (Value.int .u8) := by
    simp only [bs, List.map_map]
    apply List.map_congr_left
    intro n hn
    have : 0 ≤ n ∧ n ≤ 255 := by simpa [Lit.wf, IntKind.min, IntKind.max, IntKind.signed, IntKind.bits] using h2 n hn
    exact (u8_of this).symm
  unfold ViewsB
  rw [e1, List.length_map]; exact h1
theorem open_texts {t e : TypeId} {v : Value} {d : DataW H} {ps : List MemPlace} (ht : P.underlying t = some (.slice e)) (he : P.underlying e = some .string) (hc : P.cellsOf e = 1) (hval : Value.okWide P W r b0 t v) (hd : DataW.Trod enc P W base (fun _ => true) true t v d ps) :
    ∃ l : List (List UInt8), Views [Base W] 1 v l.length (svs l) := by
  obtain ⟨a, len, cap, rfl⟩ := okWide_slice ht hval
  obtain ⟨fuel, hf⟩ := hd
  rcases open_strings ht he hc hf with ⟨hcs, _⟩ | ⟨x, l, c, ss, hcs, _, hl, hm, hz, _, hcell, hwz⟩
  · simp [Value.cells] at hcs
    obtain ⟨rfl, rfl, rfl⟩ := hcs
    exact ⟨[], Views.nil _ _⟩
  · simp [Value.cells] at hcs
    obtain ⟨rfl, rfl, rfl⟩ := hcs
    simp only [if_true] at hz
    refine ⟨(ss.take len).map fun s => s.data.toList, ?_⟩
    have hlen : ((ss.take len).map fun s => s.data.toList).length = len := by simp; omega
    rw [hlen]
    refine Views.base (RDh.of_cells (by simp [svs]; omega) hl hm (by omega) (fun j u hj => ?_))
    simp only [svs, List.map_map, List.getElem?_map] at hj
    cases e1 : (ss.take len)[j]? with
    | none => simp [e1] at hj
    | some s =>
      simp only [e1, Option.map_some, Option.some.injEq, Function.comp] at hj
      subst hj
      have hjl : j < len := by rw [List.getElem?_take] at e1; split at e1 <;> simp_all
      have := hcell j (by omega)
      rw [this]
      rw [List.getElem?_take, if_pos hjl] at e1
      simp [List.getD_eq_getElem?_getD, e1, sv]
end

/-- the end of a law's walk, as the row's step wants it -/
theorem law_end {P : Program} {f : FuncId} {args : Array Value} {W : World} (hc : Calls P f args W (Ret W (fun _ : Unit => .bool true) (fun _ => [Base W]) (fun _ => True))) :
    Calls P f args W (fun e W' => e = .returned (.bool true) ∧ Below W.heap.size W W') :=
  hc.mono fun e w ⟨_, he, hs, _⟩ => ⟨he, hs.below 0 rfl⟩
theorem svs_get {l : List (List UInt8)} {j : Nat} {x : List UInt8} (h : l[j]? = some x) : (svs l)[j]? = some (sv x) := by simp [svs, h]
theorem ints_get {l : List Int} {j : Nat} {x : Int} (h : l[j]? = some x) : (ints l)[j]? = some (.int .i64 x) := by simp [ints, h]

section
variable {P : Program} {n : Nat} {s w : World} {a : Act} {E : List (Nat × Value)} {L : List HItem} {Q : Exit → Act → World → Prop} {next : Act → World → Prop}
variable {d : Nat} {dst : Option Nat} {ty : TypeId} {pos : String} {aft : Array Edge} {g : Option (Nat × Bool)}
/-- an element of one cell that is read -/
theorem op_indexAddr1 (h : St n s a w E L) {t el : TypeId} {x ix : Operand} {N by_ : Nat} {v : Value} {xs : List Value} {k1 : IntKind} {c : Int} (hx : ev E x = some v) (hi : ev E ix = some (.int k1 c)) (hu : P.underlying t = some (.slice el)) (hs : tsz P el = some (1, by_))
    (hv : Views L 1 v N xs) (j : Nat) (hj : c = (j : Int)) {u : Value} (hlj : xs[j]? = some u)
    (hd : Nat.blt d n = true) (k : ∀ p a w, CellsAt L p [u] → St n s a w ((d, .pointer (some p)) :: E) L → next a w) : (Oper.mk (some d) (.indexAddr t x ix) ty pos aft g).wp P a w next Q := by
  have hlen := hv.length h.2
  have hlt : j < xs.length := (List.getElem?_eq_some_iff.1 hlj).1
  refine op_indexAddr h hx hi hu hs hv j hj (by omega) ?_ hd k
  rw [Nat.mul_one, List.drop_eq_getElem_cons hlt, (List.getElem?_eq_some_iff.1 hlj).2]
  simp
end
end Go.Sl
