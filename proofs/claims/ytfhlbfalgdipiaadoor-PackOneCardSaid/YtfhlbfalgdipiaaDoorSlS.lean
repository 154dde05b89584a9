/- A small library for walks, part S: calls whose contract tells one value, guarded or not. No statement is proved here. -/
import Derived.Test.YtfhlbfalgdipiaaDoorSlR
set_option linter.unusedVariables false
set_option linter.unusedSimpArgs false
namespace Go.Sl
section
variable {P : Program} {n : Nat} {s w : World} {a : Act} {E : List (Nat × Value)} {L : List HItem} {Q : Exit → Act → World → Prop}
variable {d : Nat} {ty : TypeId} {pos : String} {aft : Array Edge} {ops : Array Oper} {rest : List Oper} {v : Value} {QQ : Act → Prop}

/-- what a contract says that tells one value and keeps the items -/
abbrev One (s : World) (v : Value) (L : List HItem) : Ending → World → Prop := Ret s (fun _ : Unit => v) (fun _ => L) (fun _ => True)

theorem wcG (h : St n s a w E L) {j : Nat} {b gg : Bool} (hg : Wants ops E j b gg) {f : FuncId} {xs : List Operand} {ats : Array TypeId} (hf : isGo P f = true)
    (hc : gg = true → ∃ vs, evs E xs = some vs ∧ Calls P f vs.toArray w (One s v L)) (hd : Nat.blt d n = true)
    (k : ∀ a w, St n s a w ((d, gval gg v) :: E) L → wpList P ops Q rest a w) : wpList P ops Q (Oper.mk (some d) (.call { callee := .value (.func f), args := xs.toArray, argTypes := ats }) ty pos aft (some (j, b)) :: rest) a w := by
  have hw := hg.wanted h.1
  cases gg with
  | true =>
    obtain ⟨vs, hx, hc⟩ := hc rfl
    unfold wpList
    rw [if_pos (by simp [Region.wanted, hw])]
    exact .inl (op_call h hx hf hc hd (fun _ a w _ h => k a w h))
  | false =>
    unfold wpList
    rw [if_neg (by simp [Region.wanted, hw])]
    exact k _ _ ⟨h.1.put hd _, h.2⟩
theorem q_c (hE : Env n a E) {f : FuncId} {xs : List Operand} {ats : Array TypeId} {vs : List Value} (hx : evs E xs = some vs) (hf : isGo P f = true)
    (hc : ∀ w, Sat s w L → Calls P f vs.toArray w (One s v L)) (hd : Nat.blt d n = true)
    (k : ∀ a, Env n a ((d, v) :: E) → wpQuiet P ops (fun w => Sat s w L) QQ rest a) : wpQuiet P ops (fun w => Sat s w L) QQ (Oper.mk (some d) (.call { callee := .value (.func f), args := xs.toArray, argTypes := ats }) ty pos aft none :: rest) a :=
  q_call hE hx hf (fun w hw => Ret.keeps (hc w hw) (fun _ _ => rfl) (fun _ _ h => h)) hd k
theorem q_cG (hE : Env n a E) {j : Nat} {b gg : Bool} (hg : Wants ops E j b gg) {f : FuncId} {xs : List Operand} {ats : Array TypeId} (hf : isGo P f = true)
    (hc : gg = true → ∃ vs, evs E xs = some vs ∧ ∀ w, Sat s w L → Calls P f vs.toArray w (One s v L)) (hd : Nat.blt d n = true)
    (k : ∀ a, Env n a ((d, gval gg v) :: E) → wpQuiet P ops (fun w => Sat s w L) QQ rest a) : wpQuiet P ops (fun w => Sat s w L) QQ (Oper.mk (some d) (.call { callee := .value (.func f), args := xs.toArray, argTypes := ats }) ty pos aft (some (j, b)) :: rest) a :=
  q_callG hE hg hf (fun e => let ⟨vs, hx, hc⟩ := hc e; ⟨vs, hx, fun w hw => Ret.keeps (hc w hw) (fun _ _ => rfl) (fun _ _ h => h)⟩) hd k
/-- noughts -/
theorem op_mkB {next : Act → World → Prop} {g : Option (Nat × Bool)} (h : St n s a w E L) {t el : TypeId} {x y : Operand} {k1 k2 : IntKind} {c1 c2 : Int} {by_ : Nat} (hu : P.underlying t = some (.slice el)) (hs : tsz P el = some (1, by_)) (hz : tzero P el = some (.int .u8 0)) (hx : ev E x = some (.int k1 c1)) (hy : ev E y = some (.int k2 c2))
    {N M : Nat} [NatOf c1 N] (hN : c1 = (N : Int)) [NatOf c2 M] (hM : c2 = (M : Int)) (hNM : N ≤ M) (hM2 : M ≤ 4294967296) (hby : Nat.ble by_ 4096 = true) (hd : Nat.blt d n = true)
    (k : ∀ v a w, St n s a w ((d, v) :: E) (OwnB v (List.replicate N 0) :: L) → next a w) :
    (Oper.mk (some d) (.makeSlice t x y) ty pos aft g).wp P a w next Q :=
  op_makeSliceb h hu hs hz hx hy N M hN hM hNM hM2 hby hd k
end
end Go.Sl
