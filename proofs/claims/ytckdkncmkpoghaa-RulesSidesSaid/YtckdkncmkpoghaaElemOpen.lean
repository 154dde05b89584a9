/- Charts, and acts, that come in. -/
import Derived.Test.YtckdkncmkpoghaaTab
import Derived.Test.YtckdkncmkpoghaaRulesPure
set_option linter.unusedVariables false
namespace Go.Sl
/-- an act, by its numbers -/
structure Ac where
  k : UInt8
  a : UInt8
  b : UInt8
  c : UInt8
  deriving DecidableEq, Inhabited
def cellsAc (x : Ac) : List Value := [bv x.k, bv x.a, bv x.b, bv x.c]
instance : Row cellsAc 4 := ⟨fun _ => rfl, fun x u hu => by
  simp only [cellsAc, List.mem_cons, List.not_mem_nil, or_false] at hu
  rcases hu with rfl | rfl | rfl | rfl <;> rfl⟩
theorem len4 {α : Type} {l : List α} (h : l.length = 4) : ∃ a b c d, l = [a, b, c, d] := by
  match l, h with
  | [a, b, c, d], _ => exact ⟨a, b, c, d, rfl⟩
theorem len10 {α : Type} {l : List α} (h : l.length = 10) : ∃ a b c d e f g i j k, l = [a, b, c, d, e, f, g, i, j, k] := by
  match l, h with
  | [a, b, c, d, e, f, g, i, j, k], _ => exact ⟨a, b, c, d, e, f, g, i, j, k, rfl⟩
theorem len2 {α : Type} {l : List α} (h : l.length = 2) : ∃ a b, l = [a, b] := by
  match l, h with
  | [a, b], _ => exact ⟨a, b, rfl⟩
/-- its numbers are a machine's -/
def BndE (e : El) : Prop := (∀ n ∈ [e.id, e.parent, e.order, e.src, e.dst], -9223372036854775808 ≤ n ∧ n ≤ 9223372036854775807) ∧ (∀ t ∈ [e.name, e.event, e.guard, e.action], t.length ≤ maxLen)
end Go.Sl
namespace Go.Proofs.K
open Go.Sl Go.WideShapes Go.ChangeShapes
variable {H : Type} {enc : TypeId × Value → H} {W : World}

theorem opn_act : Opn P enc W cellsAc (fun _ => True) t_interleafref09_Act := by
  intro base fuel cs x h
  obtain ⟨hl, hf⟩ := trod_flat u_interleafref09_Act (by kernel_rfl) h
  obtain ⟨a, b, c, d, rfl⟩ := len4 hl
  obtain ⟨v0, y0, m0, e0, g0⟩ := hf 0 _ rfl rfl (by kernel_rfl)
  obtain ⟨v1, y1, m1, e1, g1⟩ := hf 1 _ rfl rfl (by kernel_rfl)
  obtain ⟨v2, y2, m2, e2, g2⟩ := hf 2 _ rfl rfl (by kernel_rfl)
  obtain ⟨v3, y3, m3, e3, g3⟩ := hf 3 _ rfl rfl (by kernel_rfl)
  cases e0; cases e1; cases e2; cases e3
  obtain ⟨k, q0, _⟩ := opn_u8 u_uint8 _ _ _ _ g0
  obtain ⟨k1, q1, _⟩ := opn_u8 u_uint8 _ _ _ _ g1
  obtain ⟨k2, q2, _⟩ := opn_u8 u_uint8 _ _ _ _ g2
  obtain ⟨k3, q3, _⟩ := opn_u8 u_uint8 _ _ _ _ g3
  cases q0; cases q1; cases q2; cases q3
  exact ⟨⟨k, k1, k2, k3⟩, rfl, trivial⟩
theorem opn_elem : Opn P enc W cellsE BndE t_api_Elem := by
  intro base fuel cs x h
  obtain ⟨hl, hf⟩ := trod_flat u_api_Elem (by kernel_rfl) h
  obtain ⟨a, b, c, d, e, f, g, i, j, k, rfl⟩ := len10 hl
  obtain ⟨v0, y0, m0, e0, g0⟩ := hf 0 _ rfl rfl (by kernel_rfl)
  obtain ⟨v1, y1, m1, e1, g1⟩ := hf 1 _ rfl rfl (by kernel_rfl)
  obtain ⟨v2, y2, m2, e2, g2⟩ := hf 2 _ rfl rfl (by kernel_rfl)
  obtain ⟨v3, y3, m3, e3, g3⟩ := hf 3 _ rfl rfl (by kernel_rfl)
  obtain ⟨v4, y4, m4, e4, g4⟩ := hf 4 _ rfl rfl (by kernel_rfl)
  obtain ⟨v5, y5, m5, e5, g5⟩ := hf 5 _ rfl rfl (by kernel_rfl)
  obtain ⟨v6, y6, m6, e6, g6⟩ := hf 6 _ rfl rfl (by kernel_rfl)
  obtain ⟨v7, y7, m7, e7, g7⟩ := hf 7 _ rfl rfl (by kernel_rfl)
  obtain ⟨v8, y8, m8, e8, g8⟩ := hf 8 _ rfl rfl (by kernel_rfl)
  obtain ⟨v9, y9, m9, e9, g9⟩ := hf 9 _ rfl rfl (by kernel_rfl)
  cases e0; cases e1; cases e2; cases e3; cases e4; cases e5; cases e6; cases e7; cases e8; cases e9
  obtain ⟨a0, q0, b0⟩ := opn_i64 u_int _ _ _ _ g0
  obtain ⟨a1, q1, b1⟩ := opn_u8 u_uint8 _ _ _ _ g1
  obtain ⟨a2, q2, b2⟩ := opn_i64 u_int _ _ _ _ g2
  obtain ⟨a3, q3, b3⟩ := opn_i64 u_int _ _ _ _ g3
  obtain ⟨a4, q4, b4⟩ := opn_str u_string _ _ _ _ g4
  obtain ⟨a5, q5, b5⟩ := opn_i64 u_int _ _ _ _ g5
  obtain ⟨a6, q6, b6⟩ := opn_i64 u_int _ _ _ _ g6
  obtain ⟨a7, q7, b7⟩ := opn_str u_string _ _ _ _ g7
  obtain ⟨a8, q8, b8⟩ := opn_str u_string _ _ _ _ g8
  obtain ⟨a9, q9, b9⟩ := opn_str u_string _ _ _ _ g9
  cases q0; cases q1; cases q2; cases q3; cases q4; cases q5; cases q6; cases q7; cases q8; cases q9
  refine ⟨⟨a0, a1, a2, a3, a4, a5, a6, a7, a8, a9⟩, rfl, ?_, ?_⟩
  · intro n hn
    simp only [List.mem_cons, List.not_mem_nil, or_false] at hn
    rcases hn with rfl | rfl | rfl | rfl | rfl
    · exact b0
    · exact b2
    · exact b3
    · exact b5
    · exact b6
  · intro t ht
    simp only [List.mem_cons, List.not_mem_nil, or_false] at ht
    rcases ht with rfl | rfl | rfl | rfl
    · exact b4
    · exact b7
    · exact b8
    · exact b9
theorem open_slice {α : Type} {cells : α → List Value} {φ : α → Prop} {t e : TypeId} {size : Nat} {base b0 : Nat} {r : Reach} {v : Value} {d : DataW H} {ps : List MemPlace} (ht : P.underlying t = some (.slice e)) (hce : P.cellsOf e = size) (hsz : 0 < size) (hl : ∀ a, (cells a).length = size) (he : Opn P enc W cells φ e)
    (hval : Value.okWide P W r b0 t v) (hd : DataW.Trod enc P W base (fun _ => true) true t v d ps) : ∃ l : List α, Views [Base W] size v l.length (l.flatMap cells) ∧ ∀ a ∈ l, φ a := by
  obtain ⟨a, len, cap, rfl⟩ := okWide_slice ht hval
  obtain ⟨⟨v', l⟩, hv, hl, hp⟩ := opn_arg (opn_slice ht hce hsz hl he) hd
  have h2 : [Value.slice a len cap] = [v'] := hv
  cases h2
  exact ⟨l, hl, hp⟩
section
variable {base b0 : Nat} {r : Reach} {v : Value} {d : DataW H} {ps : List MemPlace}
theorem open_api_Chart (hval : Value.okWide P W r b0 t_api_Chart v) (hd : DataW.Trod enc P W base (fun _ => true) true t_api_Chart v d ps) :
    ∃ l : List El, Views [Base W] 10 v l.length (l.flatMap cellsE) ∧ ∀ e ∈ l, BndE e := open_slice u_api_Chart (by kernel_rfl) (by decide) (fun _ => rfl) opn_elem hval hd
theorem open_S_interleafref09_Act (hval : Value.okWide P W r b0 t_S_interleafref09_Act v) (hd : DataW.Trod enc P W base (fun _ => true) true t_S_interleafref09_Act v d ps) :
    ∃ l : List Ac, Views [Base W] 4 v l.length (l.flatMap cellsAc) ∧ ∀ e ∈ l, True := open_slice u_S_interleafref09_Act (by kernel_rfl) (by decide) (fun _ => rfl) opn_act hval hd
theorem open_api_Elem (hval : Value.okWide P W r b0 t_api_Elem v) (hd : DataW.Trod enc P W base (fun _ => true) true t_api_Elem v d ps) :
    ∃ (e : El) (u : Unit), v = .agg ⟨cellsE e⟩ ∧ BndE e := by
  obtain ⟨e, h1, h2⟩ := opn_agg u_api_Elem hval opn_elem hd
  exact ⟨e, (), h1, h2⟩
theorem open_api_Val (hval : Value.okWide P W r b0 t_api_Val v) (hd : DataW.Trod enc P W base (fun _ => true) true t_api_Val v d ps) :
    ∃ (n : Int) (l : List UInt8), v = .agg ⟨[.int .i64 n, sv l]⟩ ∧ (-9223372036854775808 ≤ n ∧ n ≤ 9223372036854775807) ∧ l.length ≤ maxLen := by
  have ho : Opn P enc W (fun x : Int × List UInt8 => [.int .i64 x.1, sv x.2]) (fun x => (-9223372036854775808 ≤ x.1 ∧ x.1 ≤ 9223372036854775807) ∧ x.2.length ≤ maxLen) t_api_Val := by
    intro base fuel cs x h
    obtain ⟨hl, hf⟩ := trod_flat u_api_Val (by kernel_rfl) h
    obtain ⟨a, b, rfl⟩ := len2 hl
    obtain ⟨v0, y0, m0, e0, g0⟩ := hf 0 _ rfl rfl (by kernel_rfl)
    obtain ⟨v1, y1, m1, e1, g1⟩ := hf 1 _ rfl rfl (by kernel_rfl)
    cases e0; cases e1
    obtain ⟨a0, q0, b0⟩ := opn_i64 u_int _ _ _ _ g0
    obtain ⟨a1, q1, b1⟩ := opn_str u_string _ _ _ _ g1
    cases q0; cases q1
    exact ⟨(a0, a1), rfl, b0, b1⟩
  obtain ⟨⟨n, l⟩, h1, h2⟩ := opn_agg u_api_Val hval ho hd
  exact ⟨n, l, h1, h2⟩
end
end Go.Proofs.K
