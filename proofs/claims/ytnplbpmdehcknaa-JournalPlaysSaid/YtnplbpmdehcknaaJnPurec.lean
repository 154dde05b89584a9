/- What a journal's laws lean on: disks that are opened, written, read, that crash. Plain Lean. -/
import Derived.Test.YtnplbpmdehcknaaJnd
set_option linter.unusedVariables false
namespace Go.Sl
namespace Jn
/-- a disk as a crash leaves it, or a new one -/
structure JM (D : Dk) (m : List B64) (B : Nat) (A : Int) : Prop where
  mid : Mid D m B
  ok : D.ok
  left : D.left = -1
  acts : D.acts ≤ A
/-- a disk that is open, and at rest -/
structure JS (D : Dk) (m : List B64) (n : Nat) (A : Int) : Prop where
  rest : Rest D m n
  ok : D.ok
  left : D.left = -1
  acts : D.acts ≤ A
  pos : 0 < n
theorem JS.jm {D : Dk} {m : List B64} {n : Nat} {A : Int} (h : JS D m n A) : JM D m n A := ⟨h.rest.toMid, h.ok, h.left, h.acts⟩
theorem JS.len {D : Dk} {m : List B64} {n : Nat} {A : Int} (h : JS D m n A) : D.safe.length = 49 + m.length := h.rest.kept.len
theorem JM.len {D : Dk} {m : List B64} {n : Nat} {A : Int} (h : JM D m n A) : D.safe.length = 49 + m.length := h.mid.kept.len
theorem js_new (N : Nat) (h : N ≤ 4000) : JM (Dk.new (49 + N)) (List.replicate N B64.zero) 1 0 := ⟨new_mid N, Dk.new_ok (by omega), rfl, Int.le_refl _⟩
theorem openN_ok {D : Dk} (h : D.ok) (ha : D.acts + 26 ≤ 1000000000) : (openN D).1.ok ∧ (openN D).1.acts ≤ D.acts + 26 := by
  unfold openN
  split
  · exact ⟨h, by dsimp only; omega⟩
  · have hl := readN_len D.read
    have := runW_ok (applyW (readN D.read)) D h (by simp [applyW]; omega)
    refine ⟨this.1, ?_⟩
    have h2 := this.2
    simp only [applyW, List.length_map] at h2 ⊢
    omega
theorem js_open {D : Dk} {m : List B64} {B : Nat} {A : Int} (h : JM D m B A) (ha : A + 26 ≤ 1000000000) :
    (openN D).2 = 0 ∧ JS (openN D).1 m (nextN D.read 49) (A + 26) ∧ nextN D.read 49 ≤ B := by
  have hl : -1 ≤ D.left := by rw [h.left]; omega
  have hac := h.acts
  have hok := openN_ok h.ok (by omega)
  have hB : nextN D.read 49 ≤ B := by rw [h.mid.read]; exact h.mid.kept.next_le
  rcases open_law h.mid.next hl with ⟨g1, g2, g3⟩ | ⟨_, g, _⟩
  · exact ⟨g1, ⟨g2, hok.1, g3 h.left, by have := hok.2; omega, nextN_pos _⟩, hB⟩
  · exact absurd h.left g
theorem jW_eq {D : Dk} {m : List B64} {n : Nat} {l : List Pg} (hlen : D.safe.length = 49 + m.length) (hp : okP m.length l) (hne : l ≠ []) : (jW D n l).1 = (writeN D n l).1 ∧ (jW D n l).2.2 = (writeN D n l).2 ∧ (jW D n l).2.1 = if (runW D (layW n l)).2 = 0 then n + 1 else n := by
  have hg : ∀ x ∈ l, good D.safe.length x := fun x hx => by
    obtain ⟨h1, h2, h3⟩ := hp.2 x hx
    exact ⟨h1, by rw [hlen]; omega, h3⟩
  have h0 : ¬ l.length = 0 := fun e => hne (List.eq_nil_of_length_eq_zero e)
  rw [jW, if_neg (by have := hp.1; omega), if_neg (fun q => q hg), if_neg h0, writeN]
  split <;> exact ⟨rfl, rfl, rfl⟩
theorem writeN_ok {D : Dk} {n : Nat} {l : List Pg} (h : D.ok) (hl : l.length ≤ 24) (ha : D.acts + 76 ≤ 1000000000) : (writeN D n l).1.ok ∧ (writeN D n l).1.acts ≤ D.acts + 76 := by
  have h1 := runW_ok (layW n l) D h (by rw [layW_len]; omega)
  rw [layW_len] at h1
  unfold writeN
  split
  · have h2 := runW_ok (applyW l) _ h1.1 (by simp [applyW]; omega)
    refine ⟨h2.1, ?_⟩
    have h3 := h2.2
    simp only [applyW, List.length_map] at h3 ⊢
    omega
  · exact ⟨h1.1, by omega⟩
theorem js_write {D : Dk} {m : List B64} {n : Nat} {A : Int} {l : List Pg} (h : JS D m n A) (hp : okP m.length l) (hne : l ≠ []) (ha : A + 76 ≤ 1000000000) (hn : n < 4294967296) :
    (jW D n l).2.2 = 0 ∧ (jW D n l).2.1 = n + 1 ∧ JS (jW D n l).1 (put m l) (n + 1) (A + 76) := by
  have hac := h.acts
  have hN : m.length ≤ 4294967296 := by have := h.ok.2.1; have := h.len; omega
  obtain ⟨e1, e2, e3⟩ := jW_eq (n := n) h.len hp hne
  have hok := writeN_ok (n := n) h.ok hp.1 (by omega)
  rcases write_law h.rest h.ok (by have := hp.1; omega) h.pos hn hN hp with ⟨g1, g2, g3⟩ | ⟨_, g, _⟩
  · refine ⟨by rw [e2, g1], ?_, ?_⟩
    · rw [e3, if_pos]
      unfold writeN at g1
      split at g1
      · assumption
      · rename_i q; exact absurd g1 q
    · rw [e1]
      exact ⟨g2, hok.1, g3 h.left, by have := hok.2; omega, by omega⟩
  · exact absurd h.left g
theorem js_crash {D : Dk} {m : List B64} {n : Nat} {A : Int} (h : JM D m n A) (k : List UInt8) : JM (D.crash k) m n A := by
  have hk := Dk.crash_ok h.ok k
  refine ⟨crash_mid k ?_, hk.1, rfl, by have := hk.2; have := h.acts; omega⟩
  rw [h.mid.wet]; exact h.mid.kept
theorem js_read {D : Dk} {m : List B64} {n : Nat} {A : Int} (h : JS D m n A) {c : Nat} (hc : c < m.length) : Go.Proofs.K.jErr D (c : Int) = 0 ∧ Go.Proofs.K.jVal D (c : Int) = (m.getD c B64.zero).val := by
  have hb : ¬ Go.Proofs.K.jBad D (c : Int) := by unfold Go.Proofs.K.jBad; have := h.len; omega
  have hof := h.rest.off
  refine ⟨by rw [Go.Proofs.K.jErr, if_neg hb, hof]; rfl, ?_⟩
  rw [Go.Proofs.K.jVal, if_neg (by rintro (x | x); exact hb x; rw [hof] at x; cases x), h.rest.read]
  show (sec D.safe (49 + c)).val = _
  rw [sec, ← h.rest.dat, List.getD_eq_getElem?_getD, List.getD_eq_getElem?_getD, List.getElem?_drop]
end Jn
end Go.Sl
