/- A disk that is armed: what a transaction comes to, and what a crash leaves. Plain Lean. -/
import Derived.Test.YtnplbpmdehcknaaJnPurec
set_option linter.unusedVariables false
namespace Go.Sl
namespace Jn
theorem JS.mono {D : Dk} {m : List B64} {n : Nat} {A A' : Int} (h : JS D m n A) (hA : A ≤ A') : JS D m n A' := ⟨h.rest, h.ok, h.left, by have := h.acts; omega, h.pos⟩
theorem JM.mono {D : Dk} {m : List B64} {n : Nat} {A A' : Int} (h : JM D m n A) (hA : A ≤ A') : JM D m n A' := ⟨h.mid, h.ok, h.left, by have := h.acts; omega⟩
theorem arm_rest {D : Dk} {m : List B64} {n : Nat} (h : Rest D m n) (c : Int) : Rest (D.arm c) m n := ⟨⟨h.off, h.wet, h.kept⟩, h.dat⟩
theorem arm_mid {D : Dk} {m : List B64} {n : Nat} (h : Mid D m n) (c : Int) : Mid (D.arm c) m n := ⟨h.off, h.wet, h.kept⟩
theorem mid_jm {D : Dk} {m : List B64} {n : Nat} {A : Int} (h : D.ok) (ha : D.acts ≤ A) (k : List UInt8) (hm : Mid (D.crash k) m n) : JM (D.crash k) m n A := by
  have hk := Dk.crash_ok h k
  exact ⟨hm, hk.1, rfl, by have := hk.2; omega⟩
theorem rest_crash {D : Dk} {m : List B64} {n : Nat} (h : Mid D m n) (k : List UInt8) : Mid (D.crash k) m n := by
  refine crash_mid k ?_
  rw [h.wet]; exact h.kept
theorem arm_write {D : Dk} {m : List B64} {n : Nat} {A : Int} {l : List Pg} (h : JS D m n A) (c : Int) (hc : c ≤ 9223372036854775807) (hp : okP m.length l) (hne : l ≠ []) (ha : A + 76 ≤ 1000000000) (hn : n < 4294967296) :
    (jW (D.arm c) n l).1.ok ∧ (jW (D.arm c) n l).1.acts ≤ A + 76 ∧
    (((jW (D.arm c) n l).2.2 = 0 ∧ (jW (D.arm c) n l).2.1 = n + 1 ∧ Rest (jW (D.arm c) n l).1 (put m l) (n + 1)) ∨
    ((jW (D.arm c) n l).2.2 = 9 ∧ ∀ k, ∃ m', (m' = m ∨ m' = put m l) ∧ JM ((jW (D.arm c) n l).1.crash k) m' (n + 1) (A + 76))) := by
  have hac := h.acts
  have hr := arm_rest h.rest c
  have hok := Dk.arm_ok h.ok hc
  have hN : m.length ≤ 4294967296 := by have := h.ok.2.1; have := h.len; omega
  obtain ⟨e1, e2, e3⟩ := jW_eq (n := n) hr.kept.len hp hne
  have hwo := writeN_ok (n := n) hok.1 hp.1 (by have := hok.2; omega)
  rw [e1, e2]
  have h76 : (writeN (D.arm c) n l).1.acts ≤ A + 76 := by have := hwo.2; have := hok.2; omega
  refine ⟨hwo.1, h76, ?_⟩
  rcases write_law hr hok.1 (by have := hp.1; have := hok.2; omega) h.pos hn hN hp with ⟨g1, g2, g3⟩ | ⟨g1, g2, g3⟩
  · left
    refine ⟨g1, ?_, g2⟩
    rw [e3, if_pos]
    unfold writeN at g1
    split at g1
    · assumption
    · rename_i q; exact absurd g1 q
  · right
    refine ⟨g1, fun k => ?_⟩
    rcases g3 k with e | e
    · exact ⟨m, .inl rfl, mid_jm hwo.1 h76 k e⟩
    · exact ⟨put m l, .inr rfl, mid_jm hwo.1 h76 k e⟩
/-- behind a crash: all of it, or nothing; nothing only of one that failed -/
theorem arm_crash {D : Dk} {m : List B64} {n : Nat} {A : Int} {l : List Pg} (h : JS D m n A) (c : Int) (hc : c ≤ 9223372036854775807) (hp : okP m.length l) (hne : l ≠ []) (ha : A + 76 ≤ 1000000000) (hn : n < 4294967296) (k : List UInt8) :
    (jW (D.arm c) n l).1.ok ∧ ∃ m', (m' = put m l ∨ m' = m ∧ (jW (D.arm c) n l).2.2 = 9) ∧ JM ((jW (D.arm c) n l).1.crash k) m' (n + 1) (A + 76) := by
  obtain ⟨h1, h2, h3⟩ := arm_write h c hc hp hne ha hn
  refine ⟨h1, ?_⟩
  rcases h3 with ⟨g1, g2, g3⟩ | ⟨g1, g2⟩
  · exact ⟨_, .inl rfl, mid_jm h1 h2 k (rest_crash g3.toMid k)⟩
  · obtain ⟨m', e, q⟩ := g2 k
    rcases e with e | e
    · exact ⟨m', .inr ⟨e, g1⟩, q⟩
    · exact ⟨m', .inl e, q⟩
/-- a disk is opened, armed: it is open, or a crash leaves what there was -/
theorem arm_open {D : Dk} {m : List B64} {B : Nat} {A : Int} (h : JM D m B A) (c : Int) (hc : c ≤ 9223372036854775807) (ha : A + 26 ≤ 1000000000) :
    (openN (D.arm c)).1.ok ∧ (openN (D.arm c)).1.acts ≤ A + 26 ∧ (((openN (D.arm c)).2 = 0 ∧ Mid (openN (D.arm c)).1 m B) ∨ ((openN (D.arm c)).2 ≠ 0 ∧ ∀ k, Mid ((openN (D.arm c)).1.crash k) m B)) := by
  have hac := h.acts
  have hok := Dk.arm_ok h.ok hc
  have hoo := openN_ok hok.1 (by have := hok.2; omega)
  refine ⟨hoo.1, by have := hoo.2; have := hok.2; omega, ?_⟩
  rcases open_law (arm_mid h.mid c) hok.1.2.2.1 with ⟨g1, g2, _⟩ | ⟨g1, _, g3⟩
  · exact .inl ⟨g1, g2.toMid⟩
  · exact .inr ⟨by rw [g1]; decide, g3⟩
end Jn
end Go.Sl
