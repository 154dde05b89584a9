/- Acts that come in. -/
import Derived.Test.YtnplbpmdehcknaaLaw05g
import Derived.Lib.SmallJoins
set_option linter.unusedVariables false
set_option maxRecDepth 10000
namespace Go.Sl
open Go.ChangeShapes Go.WideShapes Go.ChangeAt Go.RowKit
section
variable {P : Program} {H : Type} {enc : TypeId × Value → H} {W : World}
theorem opn_struct4 {α β γ δ : Type} {ca : α → List Value} {cb : β → List Value} {cc : γ → List Value} {cd : δ → List Value} {φ : α → Prop} {ψ : β → Prop} {χ : γ → Prop} {ω : δ → Prop} {t : TypeId} {f0 f1 f2 f3 : Field} {n0 n1 n2 n3 : Nat} (ht : P.underlying t = some (.struct #[f0, f1, f2, f3])) (hc : P.cellsOf t = n0 + n1 + n2 + n3)
    (h0 : f0.offset = 0 ∧ P.cellsOf f0.type = n0) (h1 : f1.offset = n0 ∧ P.cellsOf f1.type = n1) (h2 : f2.offset = n0 + n1 ∧ P.cellsOf f2.type = n2) (h3 : f3.offset = n0 + n1 + n2 ∧ P.cellsOf f3.type = n3) (oa : Opn P enc W ca φ f0.type) (ob : Opn P enc W cb ψ f1.type) (oc : Opn P enc W cc χ f2.type) (od : Opn P enc W cd ω f3.type) :
    Opn P enc W (fun x : α × β × γ × δ => ca x.1 ++ cb x.2.1 ++ cc x.2.2.1 ++ cd x.2.2.2) (fun x => φ x.1 ∧ ψ x.2.1 ∧ χ x.2.2.1 ∧ ω x.2.2.2) t := by
  intro base fuel cs x h
  obtain ⟨y0, y1, y2, y3, n, _, hl, g0, g1, g2, g3⟩ := Go.Joins.trod_struct4 ht h
  obtain ⟨a, ha, hφ⟩ := oa _ _ _ _ g0
  obtain ⟨b, hb, hψ⟩ := ob _ _ _ _ g1
  obtain ⟨c, hcc, hχ⟩ := oc _ _ _ _ g2
  obtain ⟨d, hdd, hω⟩ := od _ _ _ _ g3
  rw [h0.1, h0.2, List.drop_zero] at ha
  rw [h1.1, h1.2] at hb
  rw [h2.1, h2.2] at hcc
  rw [h3.1, h3.2] at hdd
  rw [hc] at hl
  refine ⟨(a, b, c, d), ?_, hφ, hψ, hχ, hω⟩
  show cs = ca a ++ cb b ++ cc c ++ cd d
  rw [← ha, ← hb, ← hcc, ← hdd, ← List.take_add, ← List.take_add, ← List.take_add, List.take_of_length_le (by omega)]
end
theorem bs_fm2 : ∀ l : List UInt8, l.flatMap (fun b => [bv b]) = bs l
  | [] => rfl
  | x :: l => by rw [List.flatMap_cons, bs_fm2 l]; rfl
end Go.Sl
namespace Go.Proofs.K
open Go.Sl Go.WideShapes Go.ChangeShapes
section
variable {H : Type} {enc : TypeId × Value → H} {W : World} {base b0 : Nat} {r : Reach} {v : Value} {d : DataW H} {ps : List MemPlace}
theorem viewsB_of {pv : Value} {l : List UInt8} (h : Views [Base W] 1 pv l.length (l.flatMap fun b => [bv b])) : ViewsB [Base W] pv l := by
  unfold ViewsB
  rw [bs_fm2] at h
  exact h
theorem open_S_interleaflaw05_Act (hval : Value.okWide P W r b0 t_S_interleaflaw05_Act v) (hd : DataW.Trod enc P W base (fun _ => true) true t_S_interleaflaw05_Act v d ps) :
    ∃ l : List JA, Views [Base W] 4 v l.length (l.flatMap cellsJA) ∧ ∀ a ∈ l, ViewsB [Base W] (.slice a.aa a.al a.ac) a.at_ ∧ ViewsB [Base W] (.slice a.pa a.pl a.pc) a.p ∧ ViewsB [Base W] (.slice a.ma a.ml a.mc) a.mask := by
  have ho : Opn P enc W cellsJA (fun a => ViewsB [Base W] (.slice a.aa a.al a.ac) a.at_ ∧ ViewsB [Base W] (.slice a.pa a.pl a.pc) a.p ∧ ViewsB [Base W] (.slice a.ma a.ml a.mc) a.mask) t_interleaflaw05_Act := by
    intro base fuel cs x h
    have hsl := opn_slice (P := P) (enc := enc) (W := W) (size := 1) u_S_uint8 (by kernel_rfl) (by decide) (fun _ => rfl) (opn_u8 u_uint8)
    obtain ⟨⟨⟨av, la⟩, ⟨pv, lq⟩, st, ⟨mv, lm⟩⟩, rfl, ha, hp, _, hm⟩ := opn_struct4 (n0 := 1) (n1 := 1) (n2 := 1) (n3 := 1) u_interleaflaw05_Act (by kernel_rfl) ⟨rfl, by kernel_rfl⟩ ⟨rfl, by kernel_rfl⟩ ⟨rfl, by kernel_rfl⟩ ⟨rfl, by kernel_rfl⟩
      hsl hsl (opn_u8 u_uint8) hsl _ _ _ _ h
    have ha2 := viewsB_of ha.1
    have hp2 := viewsB_of hp.1
    have hm2 := viewsB_of hm.1
    dsimp only at ha2 hp2 hm2
    obtain ⟨A1, c1, e1, _⟩ := Views.shape ha2 (Sat.base W)
    obtain ⟨A2, c2, e2, _⟩ := Views.shape hp2 (Sat.base W)
    obtain ⟨A3, c3, e3, _⟩ := Views.shape hm2 (Sat.base W)
    subst e1 e2 e3
    exact ⟨⟨A1, la.length, c1, la, A2, lq.length, c2, lq, st, A3, lm.length, c3, lm⟩, rfl, ha2, hp2, hm2⟩
  obtain ⟨a, len, cap, rfl⟩ := okWide_slice u_S_interleaflaw05_Act hval
  obtain ⟨⟨v', l⟩, hv, hl, hp⟩ := opn_arg (opn_slice (size := 4) u_S_interleaflaw05_Act (by kernel_rfl) (by decide) (fun _ => rfl) ho) hd
  have h2 : [Value.slice a len cap] = [v'] := hv
  cases h2
  exact ⟨l, hl, hp⟩
end
end Go.Proofs.K
