/- A small library for walks, part Y: guarded operations that are passed by; slices written out of things of one cell. No statement is proved here. -/
import Derived.Test.YtfhlbfalgdipiaaDoorSlX
set_option linter.unusedVariables false
set_option linter.unusedSimpArgs false
namespace Go.Sl

section
variable {n : Nat} {P : Program} {s w : World} {a : Act} {E : List (Nat × Value)} {L G : List HItem} {Q : Exit → Act → World → Prop} {ops : Array Oper} {D : List (Nat × List HItem)} {listed listed' : Array Bool} {fuel : Nat} {rest : List Oper} {next : Act → World → Prop}
variable {d : Nat} {dst : Option Nat} {ty : TypeId} {pos : String} {aft : Array Edge} {op : Op} {j : Nat} {b g : Bool}

theorem wvS (h : St n s a w E L) (hg : Wants ops E j b g) (hf : g = false) (hd : Nat.blt d n = true) (k : ∀ a w, St n s a w ((d, undef) :: E) L → wpList P ops Q rest a w) : wpList P ops Q (Oper.mk (some d) op ty pos aft (some (j, b)) :: rest) a w :=
  wvG (v := undef) h hg (fun q => by rw [hf] at q; cases q) hd fun a w h => k a w (by subst hf; exact h)
theorem qvS {QQ : Act → Prop} (hE : Env n a E) (hg : Wants ops E j b g) (hf : g = false) (hd : Nat.blt d n = true) (k : ∀ a, Env n a ((d, undef) :: E) → wpQuiet P ops (fun w => Sat s w L) QQ rest a) : wpQuiet P ops (fun w => Sat s w L) QQ (Oper.mk (some d) op ty pos aft (some (j, b)) :: rest) a :=
  qvG (v := undef) hE hg (fun q => by rw [hf] at q; cases q) hd fun a h => k a (by subst hf; exact h)
theorem d_skipQ (h : St n s a w E L) (hD : Paid s w D) (i : Nat) (hl : listed.setIfInBounds i true = listed') (hi : ops[i]? = some (Oper.mk (some d) op ty pos aft (some (j, b)))) (hs : Region.noSelect ops = true) (hf : Region.free .any ops listed i = true) (hr : (Region.ready .any ops listed).contains i = true)
    (hQ : ∀ v c a w, Q (.panic c) (a.put (some d) v) w → Q (.panic c) a w) (hg : Wants ops E j b g) (hff : g = false) (hd : Nat.blt d n = true)
    (k : ∀ a w, St n s a w ((d, undef) :: E) L → Paid s w D → Drawn P s ops Q fuel D listed' a w) : Drawn P s ops Q (fuel + 1) D listed a w :=
  d_take0G (v := undef) h hD i hl hi hs hf hr hQ hg (fun q => by rw [hff] at q; cases q) hd fun a w h => k a w (by subst hff; exact h)
theorem Sat.none {s w : World} {L : List HItem} (h : Sat s w L) : Sat s w [] := ⟨h.1, h.2.1, h.2.2.1, trivial⟩
theorem d_skipF (h : St n s a w E L) (hD : Paid s w D) (i : Nat) (hl : listed.setIfInBounds i true = listed') (hi : ops[i]? = some (Oper.mk (some d) op ty pos aft (some (j, b)))) (hs : Region.noSelect ops = true) (hf : Region.free .any ops listed i = true) (hr : (Region.ready .any ops listed).contains i = true)
    (hQ : ∀ v c a w, Q (.panic c) (a.put (some d) v) w → Q (.panic c) a w) (hg : Wants ops E j b g) (hff : g = false) (hd : Nat.blt d n = true)
    (k : ∀ a w, St n s a w ((d, undef) :: E) L → Paid s w ((i, []) :: D) → Drawn P s ops Q fuel ((i, []) :: D) listed' a w) : Drawn P s ops Q (fuel + 1) D listed a w :=
  d_takeG (v := undef) h hD i [] hl hi hs hf hr hQ h.2.none hg (fun q => by rw [hff] at q; cases q) hd fun a w h => k a w (by subst hff; exact h)
theorem d_skipG (h : St n s a w E L) (hD : Paid s w D) (i : Nat) (bs : List Bool) (hl : listed.setIfInBounds i true = listed') (hi : ops[i]? = some (Oper.mk (some d) op ty pos aft (some (j, b)))) (hw : Wants ops E j b g) (hff : g = false) (hr : Region.ready .any ops listed = [i]) (hd : due ops i D = pickD bs D) (hdn : Nat.blt d n = true)
    (k : ∀ a w, St n s a w ((d, undef) :: E) L → Paid s w (pickD bs D) → Drawn P s ops Q fuel (pickD bs D) listed' a w) : Drawn P s ops Q (fuel + 1) D listed a w :=
  d_onlyG h hD i bs hl hi rfl hw hr hd (fun q => by rw [hff] at q; cases q) fun _ => k _ _ ⟨h.1.put hdn undef, h.2⟩ (by rw [← hd]; exact Paid.of fun x hx => hD.mem x (List.mem_filter.1 hx).1)
/-- a slice written out of things of one cell -/
theorem op_buildO (h : St n s a w E L) {t el : TypeId} {len by_ : Nat} {ps : List (Nat × Operand)} {vs : List Value} {z : Value} (hu : P.underlying t = some (.slice el)) (hs : tsz P el = some (1, by_)) (hz : tzero P el = some z)
    (hi : ps.map (fun p => p.1) = List.range' 0 len) (hx : evs E (ps.map fun p => p.2) = some vs) (hlen : Nat.ble len 16777216 = true) (hpos : Nat.beq len 0 = false) (h1 : ∀ v ∈ vs, v.oneCell' = true) (hd : Nat.blt d n = true)
    (k : ∀ b a w, St n s a w ((d, .slice (some ⟨b, 0, none⟩) len len) :: E) (Blk b (.cells ⟨vs⟩ el) :: L) → next a w) {g : Option (Nat × Bool)} : (Oper.mk (some d) (.buildSlice t len ps.toArray) ty pos aft g).wp P a w next Q := by
  have hone : ∀ v : Value, v.oneCell' = true → v.cells = #[v] := fun v hv => by cases v <;> simp_all [Value.oneCell', Value.cells]
  have hc : ∀ vs : List Value, (∀ v ∈ vs, v.oneCell' = true) → vs.flatMap (fun v => v.cells.toList) = vs := by
    intro vs
    induction vs with
    | nil => intro _; rfl
    | cons v vs ih => intro q; rw [List.flatMap_cons, ih (fun u hu => q u (by simp [hu])), hone v (q v (by simp))]; rfl
  exact op_buildSlice (cells := vs) h hu hs hz hi hx (by rw [Nat.mul_one]; exact hlen) (by rw [Nat.mul_one]; exact hpos) (hc vs h1) (fun v hv => by rw [hone v (h1 v hv)]; rfl) hd k
end
end Go.Sl
