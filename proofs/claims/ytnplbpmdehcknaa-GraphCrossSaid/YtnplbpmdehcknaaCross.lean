/- Two commits that took one another in; plain laws. And a literal of two structs. -/
import Derived.Test.YtnplbpmdehcknaaLost
set_option linter.unusedVariables false
set_option linter.unusedSimpArgs false
namespace Go.Sl

def k2 (a b : UInt8) : Key := ⟨[a, b] ++ List.replicate 30 0, by simp⟩
theorem k2_inj {a b c d : UInt8} : k2 a b = k2 c d ↔ a = c ∧ b = d := by
  refine ⟨fun h => ?_, fun ⟨h1, h2⟩ => by rw [h1, h2]⟩
  have := congrArg BA.val h
  simp only [k2, List.cons_append, List.cons.injEq] at this
  exact ⟨this.1, this.2.1⟩
theorem fill_k2 (a b : UInt8) : Instr.fill (fun i => some (i * 1, 1)) ⟨bs (List.replicate 32 0)⟩ [(0, bv a), (1, bv b)] = some ⟨bs (k2 a b).val⟩ := fill_key a b
def crP (a b : UInt8) (apart : Bool) : List Key := if apart = true then [k2 a 1] else [k2 a 1, k2 b 1]
def crS (a b : UInt8) (apart : Bool) : Nodes := [(k2 a 1, []), (k2 b 1, []), (k2 1 2, crP a b apart), (k2 1 3, crP b a apart)]
theorem crP_len (a b : UInt8) (apart : Bool) : (crP a b apart).length ≤ 2 := by unfold crP; split <;> simp
theorem cr_some (a b : UInt8) (apart : Bool) : Some2 (crS a b apart) where
  two := fun p hp => by
    simp only [crS, List.mem_cons, List.not_mem_nil, or_false] at hp
    rcases hp with rfl | rfl | rfl | rfl
    · simp
    · simp
    · exact crP_len a b apart
    · exact crP_len b a apart
  few := by simp [crS]
section
variable {a b : UInt8} (hab : a ≠ b)
include hab
theorem cr_look (apart : Bool) : look (crS a b apart) (k2 a 1) = some [] ∧ look (crS a b apart) (k2 b 1) = some [] ∧ look (crS a b apart) (k2 1 2) = some (crP a b apart) ∧ look (crS a b apart) (k2 1 3) = some (crP b a apart) := by
  simp [look, crS, k2_inj, hab]
theorem cr_x (apart : Bool) : al (crS a b apart) (k2 a 1) = ([k2 a 1], 0) :=
  Bfs.det (m' := 900) (r' := al (crS a b apart) (k2 a 1)) (m := 1) (l := []) (q := [k2 a 1]) (r := ([k2 a 1], 0)) (.step (ps := []) (by simp) (cr_look hab apart).1 .nil) ((cr_some a b apart).all [k2 a 1] (by simp))
theorem cr_y (apart : Bool) : al (crS a b apart) (k2 b 1) = ([k2 b 1], 0) :=
  Bfs.det (m' := 900) (r' := al (crS a b apart) (k2 b 1)) (m := 1) (l := []) (q := [k2 b 1]) (r := ([k2 b 1], 0)) (.step (ps := []) (by simp) (cr_look hab apart).2.1 .nil) ((cr_some a b apart).all [k2 b 1] (by simp))
theorem cr_p : al (crS a b false) (k2 1 2) = ([k2 1 2, k2 a 1, k2 b 1], 0) :=
  Bfs.det (m' := 900) (r' := al (crS a b false) (k2 1 2)) (m := 3) (l := []) (q := [k2 1 2]) (r := ([k2 1 2, k2 a 1, k2 b 1], 0))
    (.step (ps := [k2 a 1, k2 b 1]) (by simp) (cr_look hab false).2.2.1 (.step (ps := []) (by simp [k2_inj]) (cr_look hab false).1 (.step (ps := []) (by simp [k2_inj, Ne.symm hab]) (cr_look hab false).2.1 .nil))) ((cr_some a b false).all [k2 1 2] (by simp))
theorem cr_q : al (crS a b false) (k2 1 3) = ([k2 1 3, k2 b 1, k2 a 1], 0) :=
  Bfs.det (m' := 900) (r' := al (crS a b false) (k2 1 3)) (m := 3) (l := []) (q := [k2 1 3]) (r := ([k2 1 3, k2 b 1, k2 a 1], 0))
    (.step (ps := [k2 b 1, k2 a 1]) (by simp) (cr_look hab false).2.2.2 (.step (ps := []) (by simp [k2_inj]) (cr_look hab false).2.1 (.step (ps := []) (by simp [k2_inj, hab]) (cr_look hab false).1 .nil))) ((cr_some a b false).all [k2 1 3] (by simp))
theorem cr_p1 : al (crS a b true) (k2 1 2) = ([k2 1 2, k2 a 1], 0) :=
  Bfs.det (m' := 900) (r' := al (crS a b true) (k2 1 2)) (m := 2) (l := []) (q := [k2 1 2]) (r := ([k2 1 2, k2 a 1], 0))
    (.step (ps := [k2 a 1]) (by simp) (cr_look hab true).2.2.1 (.step (ps := []) (by simp [k2_inj]) (cr_look hab true).1 .nil)) ((cr_some a b true).all [k2 1 2] (by simp))
theorem cr_q1 : al (crS a b true) (k2 1 3) = ([k2 1 3, k2 b 1], 0) :=
  Bfs.det (m' := 900) (r' := al (crS a b true) (k2 1 3)) (m := 2) (l := []) (q := [k2 1 3]) (r := ([k2 1 3, k2 b 1], 0))
    (.step (ps := [k2 b 1]) (by simp) (cr_look hab true).2.2.2 (.step (ps := []) (by simp [k2_inj]) (cr_look hab true).2.1 .nil)) ((cr_some a b true).all [k2 1 3] (by simp))
theorem cr_base (apart : Bool) : baseF (al (crS a b apart)) (k2 1 2) (k2 1 3) = if apart = true then (BA.zero 32, false, 0) else (if b < a then k2 b 1 else k2 a 1, true, 0) := by
  cases apart with
  | true =>
    rw [baseF, cr_p1 hab, cr_q1 hab]
    simp [k2_inj, hab, bestF]
  | false =>
    have hx := cr_x hab false
    have hy := cr_y hab false
    have hf : ([k2 1 2, k2 a 1, k2 b 1].filter fun k => !!decide (k ∈ [k2 1 3, k2 b 1, k2 a 1])) = [k2 a 1, k2 b 1] := by simp [k2_inj]
    have t1 : topF (al (crS a b false)) (k2 a 1) [k2 a 1, k2 b 1] = (true, 0) := by simp [topF, hx, hy, k2_inj, hab, Ne.symm hab]
    have t2 : topF (al (crS a b false)) (k2 b 1) [k2 a 1, k2 b 1] = (true, 0) := by simp [topF, hx, hy, k2_inj, hab, Ne.symm hab]
    have hl : Op.bytesLess (k2 b 1).val (k2 a 1).val = decide (b < a) := by
      show Op.bytesLess (b :: _) (a :: _) = _
      rw [bytesLess_cons', if_neg (Ne.symm hab)]
    rw [baseF, cr_p hab, cr_q hab]
    simp only [hf, ne_eq, not_true, if_false, bestF, t1, t2, hl]
    by_cases h : b < a <;> simp [h]
end
theorem fill_pars (A : Option Addr) (n c : Nat) : Instr.fill (fun i => ([(0, 32), (32, 1), (33, 1)] : List (Nat × Nat))[i]?) ⟨comC (BA.zero 32) (.slice none 0 0) (sv [])⟩ [(1, .slice A n c)] = some ⟨comC (BA.zero 32) (.slice A n c) (sv [])⟩ := by
  rw [fill_step (off := 32) (size := 1) (us := [.slice A n c]) rfl rfl rfl (by rw [comC_len]; omega), Instr.fill]
  congr 2
theorem satParsSome {s w : World} {L : List HItem} {xs : List NodeV} (hx : ∀ x ∈ xs, x.pv = .slice none 0 0 ∧ x.pars = []) (h : Sat s w L) : Sat s w (ParsI xs :: L) :=
  ⟨h.1, h.2.1, h.2.2.1, fun _ => false, (fun x hh => by rw [(hx x hh).1, (hx x hh).2]; exact ⟨by simp, none, 0, rfl, Nat.le_refl _, Nat.zero_le _, .inl rfl⟩), sepL_mono L (fun b o hb => by simpa [restr] using hb) h.2.2.2⟩
theorem op_build2R {P : Program} {n : Nat} {s w : World} {a : Act} {E : List (Nat × Value)} {L : List HItem} {Q : Exit → Act → World → Prop} {next : Act → World → Prop} {d : Nat} {ty : TypeId} {pos : String} {aft : Array Edge} {g : Option (Nat × Bool)}
    {α : Type} {size : Nat} {cells : α → List Value} [Row cells size] (h : St n s a w E L) {t el : TypeId} {y1 y2 : Operand} {by_ : Nat} {z : Value} (u1 u2 : α) (hu : P.underlying t = some (.slice el)) (hs : tsz P el = some (size, by_)) (hz : tzero P el = some z)
    (h1 : ev E y1 = some (.agg ⟨cells u1⟩)) (h2 : ev E y2 = some (.agg ⟨cells u2⟩)) (hlen : Nat.ble (2 * size) 16777216 = true) (hpos : Nat.beq (2 * size) 0 = false) (hd : Nat.blt d n = true)
    (k : ∀ b a w, St n s a w ((d, .slice (some ⟨b, 0, none⟩) 2 2) :: E) (OwnM size cells (.slice (some ⟨b, 0, none⟩) 2 2) [u1, u2] :: L) → next a w) : (Oper.mk (some d) (.buildSlice t 2 #[(0, y1), (1, y2)]) ty pos aft g).wp P a w next Q := by
  refine op_buildSlice (ps := [(0, y1), (1, y2)]) (vs := [.agg ⟨cells u1⟩, .agg ⟨cells u2⟩]) (cells := cells u1 ++ cells u2) h hu hs hz rfl (by simp [evs, h1, h2]) hlen hpos (by simp [Value.cells]) (by
    intro v hv
    simp only [List.mem_cons, List.not_mem_nil, or_false] at hv
    rcases hv with rfl | rfl
    · simp [Value.cells, Row.len u1]
    · simp [Value.cells, Row.len u2]) hd (fun b a w h => k b a w ⟨h.1, ?_⟩)
  exact h.2.toOwn size 2 (NF.zero _) (by decide) (by simp) (by simp [Row.len u1, Row.len u2]; omega)
end Go.Sl
