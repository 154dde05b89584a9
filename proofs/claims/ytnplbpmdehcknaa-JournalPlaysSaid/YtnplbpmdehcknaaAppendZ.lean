/- Noughts behind one's own bytes: append with a number in the place of a slice. -/
import Derived.Test.YtnplbpmdehcknaaSl
import Derived.Lib.AppendZerosOnto
set_option linter.unusedVariables false
set_option linter.unusedSimpArgs false
namespace Go.Sl
section
variable {P : Program} {n : Nat} {s w : World} {a : Act} {E : List (Nat × Value)} {L : List HItem} {Q : Exit → Act → World → Prop} {next : Act → World → Prop}
variable {d : Nat} {ty : TypeId} {pos : String} {aft : Array Edge} {g : Option (Nat × Bool)}

theorem zeroCells_u8 (m : Nat) : (Builtin.zeroCells (Value.int .u8 0).cells m).toList = List.replicate m (Value.int .u8 0) := by
  simp [Builtin.zeroCells, Value.cells]
  apply List.ext_getElem
  · simp
  · intro i h1 h2; simp [Nat.mod_one]
theorem run_append_z {t t2 el : TypeId} {bytes N m : Nat} {kq kn : IntKind} {v : Value} {xs : List Value} (hu : P.underlying t = some (.slice el)) (hs : tsz P el = some (1, bytes)) (hz : tzero P el = some (.int .u8 0)) (hby : Nat.ble bytes 4096 = true)
    (ht2 : P.underlying t2 = some (.int kn)) (hN : N + m ≤ 4294967296) (i : Nat) (hi : L[i]? = some (Own 1 v N xs)) (hw : Sat s w L) :
    ∃ v' w', (Builtin.append_ #[t, t2] ty #[v, .int kq (m : Int)]).run P w = .ok v' w' ∧ Sat s w' (L.set i (Own 1 v' (N + m) (xs ++ List.replicate m (Value.int .u8 0)))) := by
  have hby' : bytes ≤ 4096 := Nat.le_of_ble_eq_true hby
  obtain ⟨inf, hinf, hsz, rfl⟩ := tsz_some hs
  have hil : i < L.length := (List.getElem?_eq_some_iff.1 hi).1
  have hb47 : (N + m) * inf.bytes ≤ 140737488355328 := Nat.le_trans (Nat.mul_le_mul hN hby') (by decide)
  have hmb : m * inf.bytes ≤ 140737488355328 := Nat.le_trans (Nat.mul_le_mul_right _ (Nat.le_add_left _ _)) hb47
  have hz' : inf.zero = some (.int .u8 0) := by simpa [tzero, hinf] using hz
  have hF := hw.front i hi
  obtain ⟨e1, e2, e3, D, hI, hL⟩ := hF
  obtain ⟨hxl, hI⟩ := hI
  have hw64 : IntKind.i64.wrap (m : Int) = m := wrap_i64 _ (by omega) (by omega)
  have hw0 : IntKind.i64.wrap 0 = 0 := by decide
  have grow : ∀ (A : Option Addr) (cap : Nat), v = .slice A N cap → cap < N + m → 0 < m → ∃ v' w', (Builtin.append_ #[t, t2] ty #[v, .int kq (m : Int)]).run P w = .ok v' w' ∧ Sat s w' (L.set i (Own 1 v' (N + m) (xs ++ List.replicate m (Value.int .u8 0)))) := by
    intro A cap hv hc hm0
    subst hv
    have hfit : Builtin.nextslicecap (N + m) cap * inf.bytes ≤ 281474976710656 := growslice_fits hc hb47
    have hold : (Builtin.firstCells inf.size N (.slice A N cap)).run P w.drew = .ok xs.toArray w.drew := by
      have hr : RDh 1 (.slice A N cap) N xs (hmOf w.drew) := (Own.reads (h := restr D (hmOf w)) ⟨hxl, hI⟩).mono restr_le
      have := hr.cells P (w := w.drew) N (Nat.le_refl _)
      rw [hsz, this]
      have hxl2 : xs.length = N * 1 := hxl
      rw [← hxl2, List.take_length]
    have hrun := Lib.run_append_grow_zeros (P := P) w t t2 ty el inf (.int .u8 0) kq kn hu ht2 hinf hz' A N cap xs hold m hm0 (by omega) hc (by omega) (by omega) hfit
    refine ⟨_, _, hrun, ?_⟩
    have hge := grownCap_ge w (N + m) cap el
    have hcm : grownCap w (N + m) cap el ≤ maxLen := grownCap_le_maxLen w (N + m) cap el (by simp [maxLen]; omega)
    have hsa := (Sat.alloc (s := s) (w := w.drew) (L := L.eraseIdx i) ⟨e1, e2, e3, sepL_mono _ restr_le hL⟩ (.cells (xs.toArray ++ Builtin.zeroCells (Value.int .u8 0).cells m ++ Builtin.zeroCells (Value.int .u8 0).cells (grownCap w (N + m) cap el - (N + m))) el))
    obtain ⟨f1, f2, f3, D', hI', hL'⟩ := hsa
    refine ⟨f1, f2, f3, sepL_set hil ⟨D', ⟨?_, .inr ⟨_, 0, _, _, el, (0, 0), rfl, hI', ?_, hge, hcm, ?_, ?_⟩⟩, hL'⟩⟩
    · rw [List.length_append, hxl, List.length_replicate, Nat.add_mul, Nat.mul_one m]
    · intro j _ h; simp at h
    · simp only [Array.size_append, List.size_toArray, size_zeroCells, hxl]
      show 0 + grownCap w (N + m) cap el * 1 ≤ N * 1 + m * (Value.int .u8 0).cells.size + (grownCap w (N + m) cap el - (N + m)) * (Value.int .u8 0).cells.size
      rw [show (Value.int .u8 0).cells.size = 1 from rfl]; omega
    · simp only [Array.toList_append, List.append_assoc, List.drop_zero]
      rw [← List.append_assoc, zeroCells_u8]
      exact List.take_left' (by rw [List.length_append, hxl, List.length_replicate, Nat.add_mul, Nat.mul_one m])
  rcases hI with ⟨rfl, rfl⟩ | ⟨b, o, cap, cur, e, fr, rfl, hb, hfr, hnc, hcm, hcs, hx⟩
  · by_cases hm : m = 0
    · subst hm
      have hx : xs = [] := List.eq_nil_of_length_eq_zero (by simpa using hxl)
      subst hx
      refine ⟨.slice none 0 0, w, ?_, ⟨e1, e2, e3, sepL_set hil ⟨D, ⟨by simp, .inl ⟨rfl, rfl⟩⟩, hL⟩⟩⟩
      simp [Builtin.append_, run_underlying hu, run_underlying ht2, sizeOf, typeInfo, hinf, asInt, asIntOf, hw0]
    · exact grow none 0 rfl (by omega) (by omega)
  · by_cases hroom : N + m ≤ cap
    · have hb' : w.heap[b]? = some (.cells cur e fr) := restr_le b _ hb
      have hcap : (N + m) * 1 ≤ cap * 1 := Nat.mul_le_mul_right _ hroom
      obtain ⟨w', hr, g1, g2, g3, g4, g5⟩ := run_storeCells_gen P b e fr (o + N * 1) (List.replicate m (Value.int .u8 0)) 0 cur w hb' (by rw [List.length_replicate]; omega) hfr (by intro u hu; rw [(List.mem_replicate.1 hu).2]; rfl)
      refine ⟨.slice (some ⟨b, o, none⟩) (N + m) cap, w', ?_, ?_⟩
      · have hneg : ¬ ((m : Int) < 0) := by omega
        have h48i : ¬ (281474976710656 < (m : Int) * (inf.bytes : Int)) := by rw [← Int.natCast_mul]; omega
        by_cases hm : m = 0
        · subst hm
          have hr' : (storeCells (Addr.mk b (o + N) none) ([] : List Value)).run P w = .ok () w' := by simpa using hr
          simp [Builtin.append_, run_underlying hu, run_underlying ht2, sizeOf, typeInfo, hinf, hsz, asInt, asIntOf, hw0, show N ≤ cap by omega, Addr.add_none, hr']
        · have hns : ¬ (m * inf.size = 0) := Nat.mul_ne_zero hm (by omega)
          have hzc : (Builtin.zeroCells (Value.int .u8 0).cells m).toList = List.replicate m (Value.int .u8 0) := zeroCells_u8 m
          simp [Builtin.append_, run_underlying hu, run_underlying ht2, sizeOf, typeInfo, zeroValue, hinf, hz', asInt, asIntOf, hw64, hneg, h48i, hm, hsz, hroom, Addr.add_none, hzc]
          have hr' : (storeCells (Addr.mk b (o + N) none) (List.replicate m (Value.int .u8 0))).run P w = .ok () w' := by simpa using hr
          rw [hr']; rfl
      · have hD : D b = true := by
          simp only [restr] at hb
          split at hb
          · assumption
          · cases hb
        have hrest : sepL (L.eraseIdx i) (restr (fun b => !D b) (hmOf w')) := by
          refine sepL_mono _ ?_ hL
          intro k u hk
          simp only [restr] at hk ⊢
          split at hk
          · rename_i hk'
            rw [if_pos hk']
            have : k ≠ b := by intro ee; subst ee; simp [hD] at hk'
            show w'.heap[k]? = some u
            rw [g5 k this]; exact hk
          · cases hk
        have hown : (Own 1 (.slice (some ⟨b, o, none⟩) (N + m) cap) (N + m) (xs ++ List.replicate m (Value.int .u8 0))).P (restr D (hmOf w')) := by
          refine ⟨?_, .inr ⟨b, o, cap, splice cur (o + N * 1 + 0) (List.replicate m (Value.int .u8 0)), e, fr, rfl, ?_, ?_, hroom, hcm, ?_, ?_⟩⟩
          · rw [List.length_append, hxl, List.length_replicate, Nat.add_mul, Nat.mul_one m]
          · show restr D (hmOf w') b = _
            simp only [restr, hD, if_true]
            exact g4
          · rw [splice_size _ _ _ (by rw [List.length_replicate]; omega)]; exact hfr
          · rw [splice_size _ _ _ (by rw [List.length_replicate]; omega)]; exact hcs
          · have := take_drop_splice cur o (N * 1) (List.replicate m (Value.int .u8 0)) (by rw [List.length_replicate]; omega)
            rw [List.length_replicate, hx] at this
            rw [Nat.add_mul, Nat.mul_one m, Nat.add_zero]; exact this
        exact ⟨g1.trans e1, g2.trans e2, g3.trans e3, sepL_set hil ⟨D, hown, hrest⟩⟩
    · exact grow _ cap rfl (by omega) (by omega)
theorem op_appendz (h : St n s a w E L) {t t2 el : TypeId} {x y : Operand} {bytes m : Nat} {kq kn : IntKind} {v : Value} {l : List UInt8} (hx : ev E x = some v) (hy : ev E y = some (.int kq (m : Int))) (hu : P.underlying t = some (.slice el)) (hs : tsz P el = some (1, bytes)) (hz : tzero P el = some (.int .u8 0)) (hby : Nat.ble bytes 4096 = true)
    (ht2 : P.underlying t2 = some (.int kn)) (i : Nat) (hi : L[i]? = some (OwnB v l)) (hN : l.length + m ≤ 4294967296)
    (hd : Nat.blt d n = true) (k : ∀ v' a w, St n s a w ((d, v') :: E) (L.set i (OwnB v' (l ++ List.replicate m 0))) → next a w) :
    (Oper.mk (some d) (.call { callee := .builtin .append, args := #[x, y], argTypes := #[t, t2] }) ty pos aft g).wp P a w next Q := by
  obtain ⟨v', w', hr, hw'⟩ := run_append_z (P := P) (ty := ty) (kq := kq) hu hs hz hby ht2 hN i hi h.2
  have e : Own 1 v' (l.length + m) (bs l ++ List.replicate m (Value.int .u8 0)) = OwnB v' (l ++ List.replicate m 0) := OwnB_eq (by simp [bs, bv]) (by simp)
  rw [e] at hw'
  refine op_run h (v := v') (w' := w') ?_ hd hw' (k v')
  simp [execOp, resolve, invoke, builtin, h.1.ev hx, h.1.ev hy, hr]
end
end Go.Sl
