/- The laws of layer 5, walked: a disk that stops at any act of a transaction. -/
import Derived.Test.YtnplbpmdehcknaaLaw05
import Derived.Test.YtnplbpmdehcknaaJnPured
set_option linter.unusedVariables false
set_option linter.unusedSimpArgs false
set_option maxRecDepth 10000
set_option maxHeartbeats 2000000
namespace Go.Proofs.K
open Go.Sl
attribute [local irreducible] Go.Sl.Own Go.Sl.Blk Go.Sl.Sep Go.Sl.Ex Go.Sl.Fact
attribute [local irreducible] DiskI
attribute [local irreducible] JnI
def pg2 (b1 b2 : Nat) (t : List UInt8) : List PgV := [⟨0, some ⟨b1, 0, none⟩, 3, 3, t⟩, ⟨5, some ⟨b2, 0, none⟩, 3, 3, t⟩]
def wt2 (t : List UInt8) : List Pg := [⟨0, t⟩, ⟨5, t⟩]
theorem okP2 (t : List UInt8) (ht : t.length ≤ 64) (m : List B64) (hm : m.length = 6) : Jn.okP m.length (wt2 t) := by
  refine ⟨by simp [wt2], fun x hx => ?_⟩
  simp only [wt2, List.mem_cons, List.not_mem_nil, or_false] at hx
  rcases hx with rfl | rfl <;> refine ⟨?_, ?_, ?_⟩ <;> simp [hm] <;> omega
theorem okV2 {R : List HItem} {b1 b2 : Nat} {t : List UInt8} (h1 : ViewsB R (.slice (some ⟨b1, 0, none⟩) 3 3) t) (h2 : ViewsB R (.slice (some ⟨b2, 0, none⟩) 3 3) t) : OkV R (pg2 b1 b2 t) := by
  intro x hx
  simp only [pg2, List.mem_cons, List.not_mem_nil, or_false] at hx
  rcases hx with rfl | rfl
  · exact ⟨h1, by dsimp only; decide, by dsimp only; decide⟩
  · exact ⟨h2, by dsimp only; decide, by dsimp only; decide⟩
/-- both stand -/
def Both (m : List B64) (t : List UInt8) : Prop := m.length = 6 ∧ m.getD 0 B64.zero = B64.of t ∧ m.getD 5 B64.zero = B64.of t
theorem Both.put {m : List B64} (hm : m.length = 6) (t : List UInt8) : Both (Jn.put m (wt2 t)) t := by
  show Both ((m.set 0 (B64.of t)).set 5 (B64.of t)) t
  refine ⟨by simp [hm], ?_, ?_⟩
  · rw [List.getD_eq_getElem?_getD, List.getElem?_set_ne (by decide), List.getElem?_set_self (by omega)]; rfl
  · rw [List.getD_eq_getElem?_getD, List.getElem?_set_self (by simp; omega)]; rfl
theorem Both.mid {m : List B64} {t : List UInt8} (h : Both m t) (u : List UInt8) : Both (Jn.put m [⟨3, u⟩]) t := by
  show Both (m.set 3 (B64.of u)) t
  refine ⟨by simp [h.1], ?_, ?_⟩
  · rw [List.getD_eq_getElem?_getD, List.getElem?_set_ne (by decide), ← List.getD_eq_getElem?_getD]; exact h.2.1
  · rw [List.getD_eq_getElem?_getD, List.getElem?_set_ne (by decide), ← List.getD_eq_getElem?_getD]; exact h.2.2

theorem journalStops (s w : World) (stop : UInt8) (mv : Value) (mask : List UInt8) (twice : Bool) (F : List HItem) (hm : ViewsB F mv mask) (hs : Sat s w F) :
    Calls P n_law05_JournalStops #[bv stop, mv, .bool twice] w (Ret s (fun _ : Unit => .bool true) (fun _ => F) (fun _ => True)) := by
  obtain ⟨c, hc⟩ : ∃ c, c = (stop % 14).toNat := ⟨_, rfl⟩
  have hc14 : c < 14 := by rw [hc, UInt8.toNat_mod]; exact Nat.mod_lt _ (by decide)
  refine enter K.fn_law05_JournalStops rfl K.nt_law05_JournalStops rfl hs ?_
  clear hs w; intro a w h
  refine c_seq (c_region ?_)
  refine wv h (r_assign h rfl) rfl ?_
  clear h a w; intro a w h
  refine wnil (c_then ?_)
  refine c_seq ?_
  refine c_seq (c_region ?_)
  refine wl rfl (op_call h rfl K.go_law05_awake (law05_awake s _ _ h.2) rfl ?_)
  clear h a w; intro x a w hx h
  (try simp only [List.set_cons_zero, List.set_cons_succ] at h)
  refine wv h (r_not h rfl) rfl ?_
  clear h a w; intro a w h
  refine wv h (r_move h rfl) rfl ?_
  clear h a w; intro a w h
  refine wvG h (by first | exact .t rfl | exact .f rfl | exact .gt rfl | exact .gf rfl) (fun hg => by (try simp only [↓gval_on hg, ↓gval_and hg] at h); (have hg2 := hg; (try simp only [Bool.and_eq_true, Bool.or_eq_true, Bool.not_eq_true', decide_eq_true_eq, decide_eq_false_iff_not] at hg2)); first | exact r_move h rfl) rfl ?_
  clear h a w; intro a w h
  refine wvG h (by first | exact .t rfl | exact .f rfl | exact .gt rfl | exact .gf rfl) (fun hg => by (try simp only [↓gval_on hg, ↓gval_and hg] at h); (have hg2 := hg; (try simp only [Bool.and_eq_true, Bool.or_eq_true, Bool.not_eq_true', decide_eq_true_eq, decide_eq_false_iff_not] at hg2)); first | exact r_lenB h rfl K.u_S_uint8 (by first | exact ViewsB.own 0 rfl | exact ViewsB.own 1 rfl | exact ViewsB.own 2 rfl | exact ViewsB.own 3 rfl | exact ViewsB.own 4 rfl | exact ViewsB.own 5 rfl | assumption | exact ViewsB.nil _ | exact ViewsB.arr 0 rfl (by first | assumption | rfl | (simp; done)) (Nat.le_refl _) (by simp [maxLen]) | exact ViewsB.arr 1 rfl (by first | assumption | rfl | (simp; done)) (Nat.le_refl _) (by simp [maxLen]) | exact ViewsB.arr 2 rfl (by first | assumption | rfl | (simp; done)) (Nat.le_refl _) (by simp [maxLen]) | exact ViewsB.arr 3 rfl (by first | assumption | rfl | (simp; done)) (Nat.le_refl _) (by simp [maxLen]) | exact ViewsB.arr 4 rfl (by first | assumption | rfl | (simp; done)) (Nat.le_refl _) (by simp [maxLen]) | exact ViewsB.of_drop 1 (by assumption) | exact ViewsB.of_drop 2 (by assumption) | exact ViewsB.of_drop 3 (by assumption) | exact ViewsB.of_drop 4 (by assumption) | exact ViewsB.of_drop 5 (by assumption) | exact ViewsB.of_drop 6 (by assumption) | exact ViewsB.of_drop 7 (by assumption) | exact ViewsB.of_drop 8 (by assumption) | exact ViewsB.of_drop 9 (by assumption) | exact ViewsB.of_drop 10 (by assumption) | exact ViewsB.of_drop 11 (by assumption) | exact ViewsB.of_drop 12 (by assumption) | exact ViewsB.sub (by first | exact ViewsB.own 0 rfl | exact ViewsB.own 1 rfl | exact ViewsB.own 2 rfl | exact ViewsB.own 3 rfl | exact ViewsB.own 4 rfl | exact ViewsB.own 5 rfl | assumption | exact ViewsB.nil _ | exact ViewsB.arr 0 rfl (by first | assumption | rfl | (simp; done)) (Nat.le_refl _) (by simp [maxLen]) | exact ViewsB.arr 1 rfl (by first | assumption | rfl | (simp; done)) (Nat.le_refl _) (by simp [maxLen]) | exact ViewsB.arr 2 rfl (by first | assumption | rfl | (simp; done)) (Nat.le_refl _) (by simp [maxLen]) | exact ViewsB.arr 3 rfl (by first | assumption | rfl | (simp; done)) (Nat.le_refl _) (by simp [maxLen]) | exact ViewsB.arr 4 rfl (by first | assumption | rfl | (simp; done)) (Nat.le_refl _) (by simp [maxLen]) | exact ViewsB.of_drop 1 (by assumption) | exact ViewsB.of_drop 2 (by assumption) | exact ViewsB.of_drop 3 (by assumption) | exact ViewsB.of_drop 4 (by assumption) | exact ViewsB.of_drop 5 (by assumption) | exact ViewsB.of_drop 6 (by assumption) | exact ViewsB.of_drop 7 (by assumption) | exact ViewsB.of_drop 8 (by assumption) | exact ViewsB.of_drop 9 (by assumption) | exact ViewsB.of_drop 10 (by assumption) | exact ViewsB.of_drop 11 (by assumption) | exact ViewsB.of_drop 12 (by assumption)) (by omega) (by first | omega | (simp; done) | (simp; omega)))) rfl ?_
  clear h a w; intro a w h
  refine wvG h (by first | exact .t rfl | exact .f rfl | exact .gt rfl | exact .gf rfl) (fun hg => by (try simp only [↓gval_on hg, ↓gval_and hg] at h); (have hg2 := hg; (try simp only [Bool.and_eq_true, Bool.or_eq_true, Bool.not_eq_true', decide_eq_true_eq, decide_eq_false_iff_not] at hg2)); first | exact r_bin h rfl rfl (B.gtr_int)) rfl ?_
  clear h a w; intro a w h
  first
    | (refine wv h (r_pickA h rfl rfl rfl) rfl ?_)
    | (refine wv h (r_pickO h rfl rfl rfl) rfl ?_)
    | (refine wv h (r_pick_true h rfl rfl) rfl ?_)
    | (refine wv h (r_pick_false h rfl rfl) rfl ?_)
    | (refine wv h (r_pick h rfl rfl rfl) rfl ?_)
  clear h a w; intro a w h
  refine wnil (c_then ?_)
  first
   | refine c_condD h rfl (fun ht1 => ?_) (fun ht1 => ?_)
   | refine c_condP h rfl (by first | (simp only [Bool.and_eq_true, Bool.or_eq_true, Bool.not_eq_true', decide_eq_true_eq, decide_eq_false_iff_not, ne_eq, Bool.not_eq_eq_eq_not, Bool.not_true, beq_iff_eq, bne_iff_ne]; exact Iff.rfl) | exact Iff.rfl) (fun ht1 => ?_) (fun ht1 => ?_)
  ·
   as_aux_lemma =>
    refine c_seq (c_region ?_)
    refine wl rfl (op_call h rfl K.go_law05_awake (law05_awake s _ _ h.2) rfl ?_)
    clear h a w; intro x a w hx h
    (try simp only [List.set_cons_zero, List.set_cons_succ] at h)
    refine wv h (r_assign h rfl) rfl ?_
    clear h a w; intro a w h
    refine wnil (c_then ?_)
    refine c_ret ?_
    exact ret1 h rfl rfl ⟨(), rfl, (by first | exact h.2 | exact h.2.drop 1 | exact h.2.drop 2 | exact h.2.drop 3 | exact h.2.drop 4 | exact h.2.drop 5 | exact h.2.drop 6 | exact h.2.drop 7 | exact h.2.drop 8 | exact h.2.drop 9 | exact h.2.drop 10 | exact h.2.drop 11 | exact h.2.drop 12 | exact h.2.drop 13 | exact h.2.drop 14 | exact h.2.drop 15 | exact h.2.drop 16), trivial⟩
  ·
   refine c_skip ?_
   refine c_then ?_
   refine c_seq (c_region ?_)
   refine wl rfl (op_call h rfl K.go_disk_New (disk_New s _ _ _ h.2) rfl ?_)
   clear h a w; intro b9 a w hx h
   (try simp only [List.set_cons_zero, List.set_cons_succ] at h)
   rw [show (min (max (55 : Int) 0) 4096).toNat = 49 + 6 from rfl] at h
   have J0 := Jn.js_new 6 (by decide)
   obtain ⟨o1, o2, o3⟩ := Jn.js_open J0 (by decide)
   generalize Dk.new (49 + 6) = D0 at *
   refine wv h (r_assign h rfl) rfl ?_
   clear h a w; intro a w h
   refine wnil (c_then ?_)
   refine c_seq (c_region ?_)
   refine wv h (r_move h rfl) rfl ?_
   clear h a w; intro a w h
   refine wl rfl (op_call h rfl K.go_journal_Open (jn_Open s _ b9 D0 _ J0.ok J0.mid.off (by rw [J0.len]; simp) (by have := J0.acts; omega) h.2) rfl ?_)
   clear h a w; intro bj a w hx h
   (try simp only [List.set_cons_zero, List.set_cons_succ] at h)
   rw [if_pos o1, o1] at h
   generalize (Jn.openN D0).1 = D1 at *
   generalize Jn.nextN D0.read 49 = n1 at *
   have k1 := o2.ok
   obtain ⟨w1, w2, w3⟩ := Jn.js_write o2 (okP2 [111, 108, 100] (by decide) _ (by simp)) (by simp [wt2]) (by decide) (by omega)
   have hB := Both.put (m := List.replicate 6 B64.zero) (by simp) [111, 108, 100]
   have hac1 := o2.acts
   refine wv h (r_move h rfl) rfl ?_
   clear h a w; intro a w h
   refine wv h (r_extractN h rfl rfl) rfl ?_
   clear h a w; intro a w h
   refine wv h (r_extractN h rfl rfl) rfl ?_
   clear h a w; intro a w h
   refine wv h (r_assign h rfl) rfl ?_
   clear h a w; intro a w h
   refine wv h (r_assign h rfl) rfl ?_
   clear h a w; intro a w h
   refine wnil (c_then ?_)
   refine c_seq ?_
   refine c_seq (c_region ?_)
   refine wv h (r_move h rfl) rfl ?_
   clear h a w; intro a w h
   refine wv h (r_bin h rfl rfl (B.neq_int)) rfl ?_
   clear h a w; intro a w h
   rw [show decide ((0 : Int) ≠ 0) = false by decide] at h
   refine wv h (r_move h rfl) rfl ?_
   clear h a w; intro a w h
   refine wvg h (r_move h rfl) rfl rfl ?_
   clear h a w; intro a w h
   refine wlg h rfl rfl (op_buildSlice h K.u_S_uint8 K.sz_uint8 K.z_uint8 rfl rfl rfl rfl rfl (by simp [Value.cells, bv, w32, w64, sv]) rfl ?_)
   clear h a w; intro b36 a w h
   refine wlg h rfl rfl (op_lit h rfl K.u_S_uint8 K.u_uint8 0 rfl rfl ?_)
   clear h a w; intro a w h
   (try simp only [List.set_cons_zero, List.set_cons_succ] at h)
   first | replace h := h.toOwnb [111, 108, 100] (NF.past _) rfl rfl | (replace h := h.front 1 rfl; replace h := h.toOwnb [111, 108, 100] (NF.past _) rfl rfl) | (replace h := h.front 2 rfl; replace h := h.toOwnb [111, 108, 100] (NF.past _) rfl rfl) | (replace h := h.front 3 rfl; replace h := h.toOwnb [111, 108, 100] (NF.past _) rfl rfl)
   try replace h := h.toOwnb [111, 108, 100] (NF.past _) rfl rfl
   refine wvg h (r_build h K.u_journal_Page K.z_journal_Page K.pl_journal_Page rfl rfl) rfl rfl ?_
   clear h a w; intro a w h
   refine wlg h rfl rfl (op_buildSlice h K.u_S_uint8 K.sz_uint8 K.z_uint8 rfl rfl rfl rfl rfl (by simp [Value.cells, bv, w32, w64, sv]) rfl ?_)
   clear h a w; intro b39 a w h
   refine wlg h rfl rfl (op_lit h rfl K.u_S_uint8 K.u_uint8 0 rfl rfl ?_)
   clear h a w; intro a w h
   (try simp only [List.set_cons_zero, List.set_cons_succ] at h)
   first | replace h := h.toOwnb [111, 108, 100] (NF.past _) rfl rfl | (replace h := h.front 1 rfl; replace h := h.toOwnb [111, 108, 100] (NF.past _) rfl rfl) | (replace h := h.front 2 rfl; replace h := h.toOwnb [111, 108, 100] (NF.past _) rfl rfl) | (replace h := h.front 3 rfl; replace h := h.toOwnb [111, 108, 100] (NF.past _) rfl rfl)
   try replace h := h.toOwnb [111, 108, 100] (NF.past _) rfl rfl
   refine wvg h (r_build h K.u_journal_Page K.z_journal_Page K.pl_journal_Page rfl rfl) rfl rfl ?_
   clear h a w; intro a w h
   refine wlg h rfl rfl (op_buildSlice (cells := (pg2 b36 b39 [111, 108, 100]).flatMap cellsPg) h K.u_S_journal_Page K.sz_journal_Page K.z_journal_Page rfl rfl rfl rfl rfl (by intro v hv; simp only [List.mem_cons, List.not_mem_nil, or_false] at hv; rcases hv with rfl | rfl <;> rfl) rfl ?_)
   clear h a w; intro b42 a w h
   replace h := h.toOwnM (size := 2) (cells := cellsPg) (N := 2) (pg2 b36 b39 [111, 108, 100]) (NF.zero _) rfl rfl rfl
   have hov := okV2 (R := OwnM 2 cellsPg (.slice (some ⟨b42, 0, none⟩) 2 2) (pg2 b36 b39 [111, 108, 100]) :: OwnB (.slice (some ⟨b39, 0, none⟩) 3 3) [111, 108, 100] :: OwnB (.slice (some ⟨b36, 0, none⟩) 3 3) [111, 108, 100] :: F) (ViewsB.own 2 rfl) (ViewsB.own 1 rfl)
   refine wlg h rfl rfl (op_call h rfl K.go_journal_Journal_Write (jn_Write s _ bj b9 n1 D1 _ (pg2 b36 b39 [111, 108, 100]) _ 3 rfl k1 (by omega) (by omega) (by exact Views.own 0 rfl) (by exact hov) h.2) rfl ?_)
   clear h a w; intro x a w hx h
   rw [show pgs (pg2 b36 b39 [111, 108, 100]) = wt2 [111, 108, 100] from rfl, w1, w2] at h
   clear hov
   generalize (Jn.jW D1 n1 (wt2 [111, 108, 100])).1 = D2 at *
   generalize Jn.put (List.replicate 6 B64.zero) (wt2 [111, 108, 100]) = m2 at *
   simp only [List.set_cons_zero, List.set_cons_succ] at h
   replace h := h.mem (fun z => ((z.rid 0).rid 0).rid 0)
   simp only [List.eraseIdx_cons_zero] at h
   refine wvg h (r_bin h rfl rfl B.neq_int) rfl rfl ?_
   clear h a w; intro a w h
   first
      | (refine wv h (r_pickA h rfl rfl rfl) rfl ?_)
      | (refine wv h (r_pickO h rfl rfl rfl) rfl ?_)
      | (refine wv h (r_pick_true h rfl rfl) rfl ?_)
      | (refine wv h (r_pick_false h rfl rfl) rfl ?_)
      | (refine wv h (r_pick h rfl rfl rfl) rfl ?_)
   clear h a w; intro a w h
   refine wnil (c_then ?_)
   first
    | refine c_condD h rfl (fun ht2 => ?_) (fun ht2 => ?_)
    | refine c_condP h rfl (by first | (simp only [Bool.and_eq_true, Bool.or_eq_true, Bool.not_eq_true', decide_eq_true_eq, decide_eq_false_iff_not, ne_eq, Bool.not_eq_eq_eq_not, Bool.not_true, beq_iff_eq, bne_iff_ne]; exact Iff.rfl) | exact Iff.rfl) (fun ht2 => ?_) (fun ht2 => ?_)
   ·
    exfalso
    simp at ht2
   ·
    refine c_skip ?_
    refine c_then ?_
    refine c_meet h (X := Dk × List B64 × Nat) (fun _ => [(0, bv stop), (1, mv), (7, dp b9), (8, dp bj)]) (fun x => JnI bj b9 x.1 x.2.2 :: F) (fun x => Jn.JS x.1 x.2.1 x.2.2 300 ∧ x.2.2 ≤ 10 ∧ Both x.2.1 [111, 108, 100]) ?_ ?_
    ·
     refine c_seq (c_region ?_)
     refine wv h (r_move h rfl) rfl ?_
     clear h a w; intro a w h
     refine wnil (c_then ?_)
     first
      | refine c_condD h rfl (fun ht3 => ?_) (fun ht3 => ?_)
      | refine c_condP h rfl (by first | (simp only [Bool.and_eq_true, Bool.or_eq_true, Bool.not_eq_true', decide_eq_true_eq, decide_eq_false_iff_not, ne_eq, Bool.not_eq_eq_eq_not, Bool.not_true, beq_iff_eq, bne_iff_ne]; exact Iff.rfl) | exact Iff.rfl) (fun ht3 => ?_) (fun ht3 => ?_)
     ·
      as_aux_lemma =>
       refine c_region ?_
       refine wv h (r_move h rfl) rfl ?_
       clear h a w; intro a w h
       refine wl rfl (op_buildSlice h K.u_S_uint8 K.sz_uint8 K.z_uint8 rfl rfl rfl rfl rfl (by simp [Value.cells, bv, w32, w64, sv]) rfl ?_)
       clear h a w; intro b48 a w h
       first
              | (refine wl rfl (op_lit h rfl K.u_S_uint8 K.u_uint8 0 rfl rfl ?_))
              | (refine wl rfl (op_lit h rfl K.u_S_uint8 K.u_uint8 1 rfl rfl ?_))
              | (refine wl rfl (op_lit h rfl K.u_S_uint8 K.u_uint8 2 rfl rfl ?_))
              | (refine wl rfl (op_lit h rfl K.u_S_uint8 K.u_uint8 3 rfl rfl ?_))
       clear h a w; intro a w h
       (try simp only [List.set_cons_zero, List.set_cons_succ] at h)
       (try simp only [List.set_cons_zero, List.set_cons_succ] at h)
       first | replace h := h.toOwnb [109, 105, 100] (NF.past _) rfl rfl | (replace h := h.front 1 rfl; replace h := h.toOwnb [109, 105, 100] (NF.past _) rfl rfl) | (replace h := h.front 2 rfl; replace h := h.toOwnb [109, 105, 100] (NF.past _) rfl rfl) | (replace h := h.front 3 rfl; replace h := h.toOwnb [109, 105, 100] (NF.past _) rfl rfl)
       try replace h := h.toOwnb [109, 105, 100] (NF.past _) rfl rfl
       have k3 := w3.ok
       have hm6 := hB.1
       obtain ⟨x1, x2, x3⟩ := Jn.js_write (l := [⟨3, [109, 105, 100]⟩]) w3 ⟨by simp, fun x hx => by
         simp only [List.mem_cons, List.not_mem_nil, or_false] at hx
         subst hx
         refine ⟨?_, ?_, ?_⟩ <;> simp <;> omega⟩ (by simp) (by decide) (by omega)
       have hac2 := w3.acts
       refine wv h (r_build h K.u_journal_Page K.z_journal_Page K.pl_journal_Page rfl rfl) rfl ?_
       clear h a w; intro a w h
       refine wl rfl (op_buildSlice (cells := ([⟨3, some ⟨b48, 0, none⟩, 3, 3, [109, 105, 100]⟩] : List PgV).flatMap cellsPg) h K.u_S_journal_Page K.sz_journal_Page K.z_journal_Page rfl rfl rfl rfl rfl (by intro v hv; simp only [List.mem_cons, List.not_mem_nil, or_false] at hv; rcases hv with rfl; rfl) rfl ?_)
       clear h a w; intro b51 a w h
       replace h := h.toOwnM (size := 2) (cells := cellsPg) (N := 1) [⟨3, some ⟨b48, 0, none⟩, 3, 3, [109, 105, 100]⟩] (NF.zero _) rfl rfl rfl
       have hov : OkV (OwnM 2 cellsPg (.slice (some ⟨b51, 0, none⟩) 1 1) [⟨3, some ⟨b48, 0, none⟩, 3, 3, [109, 105, 100]⟩] :: OwnB (.slice (some ⟨b48, 0, none⟩) 3 3) [109, 105, 100] :: F) [⟨3, some ⟨b48, 0, none⟩, 3, 3, [109, 105, 100]⟩] := by
         intro x hx
         simp only [List.mem_cons, List.not_mem_nil, or_false] at hx
         subst hx
         exact ⟨ViewsB.own 1 rfl, by dsimp only; decide, by dsimp only; decide⟩
       refine wl rfl (op_call h rfl K.go_journal_Journal_Write (jn_Write s _ bj b9 (n1 + 1) D2 _ [⟨3, some ⟨b48, 0, none⟩, 3, 3, [109, 105, 100]⟩] _ 2 rfl k3 (by omega) (by omega) (by exact Views.own 0 rfl) (by exact hov) h.2) rfl ?_)
       clear h a w; intro x a w hx h
       (try simp only [List.set_cons_zero, List.set_cons_succ] at h)
       rw [show pgs [⟨3, some ⟨b48, 0, none⟩, 3, 3, [109, 105, 100]⟩] = [⟨3, [109, 105, 100]⟩] from rfl, x2] at h
       refine wnil ?_
       exact ⟨(_, _, n1 + 1 + 1), (h.mem (fun z => z.drop 2)).keep [0, 1, 7, 8], x3.mono (by omega), by dsimp only; omega, hB.mid _⟩
     ·
      refine c_skip ?_
      exact ⟨(_, _, n1 + 1), h.keep [0, 1, 7, 8], w3.mono (by omega), by dsimp only; omega, hB⟩
    ·
     clear h a w; intro z a w hz h
     obtain ⟨D5, m5, n5⟩ := z
     obtain ⟨z1, z2, z3⟩ := hz
     dsimp only at z1 z2 z3 h
     have hm6 := z3.1
     obtain ⟨hko, m6, hm6', J6⟩ := Jn.arm_crash z1 (c : Int) (by omega) (okP2 [110, 101, 119] (by decide) _ hm6) (by simp [wt2]) (by decide) (by omega) mask
     obtain ⟨o4, o5, o6⟩ := Jn.js_open J6 (by decide)
     have k5 := Dk.arm_ok z1.ok (n := (c : Int)) (by omega)
     have k5' := k5.1
     have hac5 := z1.acts
     have hac6 := k5.2
     replace h := h.mem (fun z => JnI_open z)
     refine c_seq (c_region ?_)
     refine wv h (r_move h rfl) rfl ?_
     clear h a w; intro a w h
     refine wv h (r_move h rfl) rfl ?_
     clear h a w; intro a w h
     refine wv h (r_bin h rfl rfl (B.rem_u8 (y := 14) (by decide))) rfl ?_
     clear h a w; intro a w h
     refine wv h (r_conv h rfl K.u_uint8 K.u_int (C.i64_u8) ) rfl ?_
     clear h a w; intro a w h
     rw [← hc] at h
     first
          | (refine wl rfl (op_call h rfl K.go_disk_Disk_Arm (disk_Arm s _ _ _ _ _ 0 rfl h.2) rfl ?_))
          | (refine wl rfl (op_call h rfl K.go_disk_Disk_Arm (disk_Arm s _ _ _ _ _ 1 rfl h.2) rfl ?_))
          | (refine wl rfl (op_call h rfl K.go_disk_Disk_Arm (disk_Arm s _ _ _ _ _ 2 rfl h.2) rfl ?_))
          | (refine wl rfl (op_call h rfl K.go_disk_Disk_Arm (disk_Arm s _ _ _ _ _ 3 rfl h.2) rfl ?_))
          | (refine wl rfl (op_call h rfl K.go_disk_Disk_Arm (disk_Arm s _ _ _ _ _ 4 rfl h.2) rfl ?_))
          | (refine wl rfl (op_call h rfl K.go_disk_Disk_Arm (disk_Arm s _ _ _ _ _ 5 rfl h.2) rfl ?_))
     clear h a w; intro x a w hx h
     (try simp only [List.set_cons_zero, List.set_cons_succ] at h)
     replace h := h.mem JnI_shut
     refine wnil (c_then ?_)
     refine c_seq (c_region ?_)
     refine wv h (r_move h rfl) rfl ?_
     clear h a w; intro a w h
     refine wl rfl (op_buildSlice h K.u_S_uint8 K.sz_uint8 K.z_uint8 rfl rfl rfl rfl rfl (by simp [Value.cells, bv, w32, w64, sv]) rfl ?_)
     clear h a w; intro b59 a w h
     first
          | (refine wl rfl (op_lit h rfl K.u_S_uint8 K.u_uint8 0 rfl rfl ?_))
          | (refine wl rfl (op_lit h rfl K.u_S_uint8 K.u_uint8 1 rfl rfl ?_))
          | (refine wl rfl (op_lit h rfl K.u_S_uint8 K.u_uint8 2 rfl rfl ?_))
          | (refine wl rfl (op_lit h rfl K.u_S_uint8 K.u_uint8 3 rfl rfl ?_))
     clear h a w; intro a w h
     (try simp only [List.set_cons_zero, List.set_cons_succ] at h)
     (try simp only [List.set_cons_zero, List.set_cons_succ] at h)
     first | replace h := h.toOwnb [110, 101, 119] (NF.past _) rfl rfl | (replace h := h.front 1 rfl; replace h := h.toOwnb [110, 101, 119] (NF.past _) rfl rfl) | (replace h := h.front 2 rfl; replace h := h.toOwnb [110, 101, 119] (NF.past _) rfl rfl) | (replace h := h.front 3 rfl; replace h := h.toOwnb [110, 101, 119] (NF.past _) rfl rfl)
     try replace h := h.toOwnb [110, 101, 119] (NF.past _) rfl rfl
     refine wv h (r_build h K.u_journal_Page K.z_journal_Page K.pl_journal_Page rfl rfl) rfl ?_
     clear h a w; intro a w h
     refine wl rfl (op_buildSlice h K.u_S_uint8 K.sz_uint8 K.z_uint8 rfl rfl rfl rfl rfl (by simp [Value.cells, bv, w32, w64, sv]) rfl ?_)
     clear h a w; intro b62 a w h
     first
          | (refine wl rfl (op_lit h rfl K.u_S_uint8 K.u_uint8 0 rfl rfl ?_))
          | (refine wl rfl (op_lit h rfl K.u_S_uint8 K.u_uint8 1 rfl rfl ?_))
          | (refine wl rfl (op_lit h rfl K.u_S_uint8 K.u_uint8 2 rfl rfl ?_))
          | (refine wl rfl (op_lit h rfl K.u_S_uint8 K.u_uint8 3 rfl rfl ?_))
     clear h a w; intro a w h
     (try simp only [List.set_cons_zero, List.set_cons_succ] at h)
     (try simp only [List.set_cons_zero, List.set_cons_succ] at h)
     first | replace h := h.toOwnb [110, 101, 119] (NF.past _) rfl rfl | (replace h := h.front 1 rfl; replace h := h.toOwnb [110, 101, 119] (NF.past _) rfl rfl) | (replace h := h.front 2 rfl; replace h := h.toOwnb [110, 101, 119] (NF.past _) rfl rfl) | (replace h := h.front 3 rfl; replace h := h.toOwnb [110, 101, 119] (NF.past _) rfl rfl)
     try replace h := h.toOwnb [110, 101, 119] (NF.past _) rfl rfl
     refine wv h (r_build h K.u_journal_Page K.z_journal_Page K.pl_journal_Page rfl rfl) rfl ?_
     clear h a w; intro a w h
     refine wl rfl (op_buildSlice (cells := (pg2 b59 b62 [110, 101, 119]).flatMap cellsPg) h K.u_S_journal_Page K.sz_journal_Page K.z_journal_Page rfl rfl rfl rfl rfl (by intro v hv; simp only [List.mem_cons, List.not_mem_nil, or_false] at hv; rcases hv with rfl | rfl <;> rfl) rfl ?_)
     clear h a w; intro b65 a w h
     replace h := h.toOwnM (size := 2) (cells := cellsPg) (N := 2) (pg2 b59 b62 [110, 101, 119]) (NF.zero _) rfl rfl rfl
     have hov := okV2 (R := OwnM 2 cellsPg (.slice (some ⟨b65, 0, none⟩) 2 2) (pg2 b59 b62 [110, 101, 119]) :: OwnB (.slice (some ⟨b62, 0, none⟩) 3 3) [110, 101, 119] :: OwnB (.slice (some ⟨b59, 0, none⟩) 3 3) [110, 101, 119] :: F) (ViewsB.own 2 rfl) (ViewsB.own 1 rfl)
     refine wl rfl (op_call h rfl K.go_journal_Journal_Write (jn_Write s _ bj b9 n5 (D5.arm (c : Int)) _ (pg2 b59 b62 [110, 101, 119]) _ 3 rfl k5' (by omega) (by omega) (by exact Views.own 0 rfl) (by exact hov) h.2) rfl ?_)
     clear h a w; intro x a w hx h
     (try simp only [List.set_cons_zero, List.set_cons_succ] at h)
     rw [show pgs (pg2 b59 b62 [110, 101, 119]) = wt2 [110, 101, 119] from rfl] at h
     clear hov
     obtain ⟨e7, he7⟩ : ∃ e, e = (Jn.jW (D5.arm (c : Int)) n5 (wt2 [110, 101, 119])).2.2 := ⟨_, rfl⟩
     rw [← he7] at h hm6'
     generalize (Jn.jW (D5.arm (c : Int)) n5 (wt2 [110, 101, 119])).1 = D7 at *
     refine wv h (r_assign h rfl) rfl ?_
     clear h a w; intro a w h
     refine wnil (c_then ?_)
     refine c_seq (c_region ?_)
     refine wv h (r_move h rfl) rfl ?_
     clear h a w; intro a w h
     refine wv h (r_move h rfl) rfl ?_
     clear h a w; intro a w h
     replace h := h.mem (fun z => JnI_open (z.front 3 rfl))
     first
          | (refine wl rfl (op_call h rfl K.go_disk_Disk_Crash (disk_Crash s _ _ _ _ _ _ 0 rfl (by first | assumption | exact Dk.OkN.ok' (by decide)) (by first | exact ViewsB.own 0 rfl | exact ViewsB.own 1 rfl | exact ViewsB.own 2 rfl | exact ViewsB.own 3 rfl | exact ViewsB.own 4 rfl | exact ViewsB.own 5 rfl | assumption | exact ViewsB.nil _ | exact ViewsB.arr 0 rfl (by first | assumption | rfl | (simp; done)) (Nat.le_refl _) (by simp [maxLen]) | exact ViewsB.arr 1 rfl (by first | assumption | rfl | (simp; done)) (Nat.le_refl _) (by simp [maxLen]) | exact ViewsB.arr 2 rfl (by first | assumption | rfl | (simp; done)) (Nat.le_refl _) (by simp [maxLen]) | exact ViewsB.arr 3 rfl (by first | assumption | rfl | (simp; done)) (Nat.le_refl _) (by simp [maxLen]) | exact ViewsB.arr 4 rfl (by first | assumption | rfl | (simp; done)) (Nat.le_refl _) (by simp [maxLen]) | exact ViewsB.of_drop 1 (by assumption) | exact ViewsB.of_drop 2 (by assumption) | exact ViewsB.of_drop 3 (by assumption) | exact ViewsB.of_drop 4 (by assumption) | exact ViewsB.of_drop 5 (by assumption) | exact ViewsB.of_drop 6 (by assumption) | exact ViewsB.of_drop 7 (by assumption) | exact ViewsB.of_drop 8 (by assumption) | exact ViewsB.of_drop 9 (by assumption) | exact ViewsB.of_drop 10 (by assumption) | exact ViewsB.of_drop 11 (by assumption) | exact ViewsB.of_drop 12 (by assumption) | exact ViewsB.sub (by first | exact ViewsB.own 0 rfl | exact ViewsB.own 1 rfl | exact ViewsB.own 2 rfl | exact ViewsB.own 3 rfl | exact ViewsB.own 4 rfl | exact ViewsB.own 5 rfl | assumption | exact ViewsB.nil _ | exact ViewsB.arr 0 rfl (by first | assumption | rfl | (simp; done)) (Nat.le_refl _) (by simp [maxLen]) | exact ViewsB.arr 1 rfl (by first | assumption | rfl | (simp; done)) (Nat.le_refl _) (by simp [maxLen]) | exact ViewsB.arr 2 rfl (by first | assumption | rfl | (simp; done)) (Nat.le_refl _) (by simp [maxLen]) | exact ViewsB.arr 3 rfl (by first | assumption | rfl | (simp; done)) (Nat.le_refl _) (by simp [maxLen]) | exact ViewsB.arr 4 rfl (by first | assumption | rfl | (simp; done)) (Nat.le_refl _) (by simp [maxLen]) | exact ViewsB.of_drop 1 (by assumption) | exact ViewsB.of_drop 2 (by assumption) | exact ViewsB.of_drop 3 (by assumption) | exact ViewsB.of_drop 4 (by assumption) | exact ViewsB.of_drop 5 (by assumption) | exact ViewsB.of_drop 6 (by assumption) | exact ViewsB.of_drop 7 (by assumption) | exact ViewsB.of_drop 8 (by assumption) | exact ViewsB.of_drop 9 (by assumption) | exact ViewsB.of_drop 10 (by assumption) | exact ViewsB.of_drop 11 (by assumption) | exact ViewsB.of_drop 12 (by assumption)) (by omega) (by first | omega | (simp; done) | (simp; omega))) h.2) rfl ?_))
          | (refine wl rfl (op_call h rfl K.go_disk_Disk_Crash (disk_Crash s _ _ _ _ _ _ 1 rfl (by first | assumption | exact Dk.OkN.ok' (by decide)) (by first | exact ViewsB.own 0 rfl | exact ViewsB.own 1 rfl | exact ViewsB.own 2 rfl | exact ViewsB.own 3 rfl | exact ViewsB.own 4 rfl | exact ViewsB.own 5 rfl | assumption | exact ViewsB.nil _ | exact ViewsB.arr 0 rfl (by first | assumption | rfl | (simp; done)) (Nat.le_refl _) (by simp [maxLen]) | exact ViewsB.arr 1 rfl (by first | assumption | rfl | (simp; done)) (Nat.le_refl _) (by simp [maxLen]) | exact ViewsB.arr 2 rfl (by first | assumption | rfl | (simp; done)) (Nat.le_refl _) (by simp [maxLen]) | exact ViewsB.arr 3 rfl (by first | assumption | rfl | (simp; done)) (Nat.le_refl _) (by simp [maxLen]) | exact ViewsB.arr 4 rfl (by first | assumption | rfl | (simp; done)) (Nat.le_refl _) (by simp [maxLen]) | exact ViewsB.of_drop 1 (by assumption) | exact ViewsB.of_drop 2 (by assumption) | exact ViewsB.of_drop 3 (by assumption) | exact ViewsB.of_drop 4 (by assumption) | exact ViewsB.of_drop 5 (by assumption) | exact ViewsB.of_drop 6 (by assumption) | exact ViewsB.of_drop 7 (by assumption) | exact ViewsB.of_drop 8 (by assumption) | exact ViewsB.of_drop 9 (by assumption) | exact ViewsB.of_drop 10 (by assumption) | exact ViewsB.of_drop 11 (by assumption) | exact ViewsB.of_drop 12 (by assumption) | exact ViewsB.sub (by first | exact ViewsB.own 0 rfl | exact ViewsB.own 1 rfl | exact ViewsB.own 2 rfl | exact ViewsB.own 3 rfl | exact ViewsB.own 4 rfl | exact ViewsB.own 5 rfl | assumption | exact ViewsB.nil _ | exact ViewsB.arr 0 rfl (by first | assumption | rfl | (simp; done)) (Nat.le_refl _) (by simp [maxLen]) | exact ViewsB.arr 1 rfl (by first | assumption | rfl | (simp; done)) (Nat.le_refl _) (by simp [maxLen]) | exact ViewsB.arr 2 rfl (by first | assumption | rfl | (simp; done)) (Nat.le_refl _) (by simp [maxLen]) | exact ViewsB.arr 3 rfl (by first | assumption | rfl | (simp; done)) (Nat.le_refl _) (by simp [maxLen]) | exact ViewsB.arr 4 rfl (by first | assumption | rfl | (simp; done)) (Nat.le_refl _) (by simp [maxLen]) | exact ViewsB.of_drop 1 (by assumption) | exact ViewsB.of_drop 2 (by assumption) | exact ViewsB.of_drop 3 (by assumption) | exact ViewsB.of_drop 4 (by assumption) | exact ViewsB.of_drop 5 (by assumption) | exact ViewsB.of_drop 6 (by assumption) | exact ViewsB.of_drop 7 (by assumption) | exact ViewsB.of_drop 8 (by assumption) | exact ViewsB.of_drop 9 (by assumption) | exact ViewsB.of_drop 10 (by assumption) | exact ViewsB.of_drop 11 (by assumption) | exact ViewsB.of_drop 12 (by assumption)) (by omega) (by first | omega | (simp; done) | (simp; omega))) h.2) rfl ?_))
          | (refine wl rfl (op_call h rfl K.go_disk_Disk_Crash (disk_Crash s _ _ _ _ _ _ 2 rfl (by first | assumption | exact Dk.OkN.ok' (by decide)) (by first | exact ViewsB.own 0 rfl | exact ViewsB.own 1 rfl | exact ViewsB.own 2 rfl | exact ViewsB.own 3 rfl | exact ViewsB.own 4 rfl | exact ViewsB.own 5 rfl | assumption | exact ViewsB.nil _ | exact ViewsB.arr 0 rfl (by first | assumption | rfl | (simp; done)) (Nat.le_refl _) (by simp [maxLen]) | exact ViewsB.arr 1 rfl (by first | assumption | rfl | (simp; done)) (Nat.le_refl _) (by simp [maxLen]) | exact ViewsB.arr 2 rfl (by first | assumption | rfl | (simp; done)) (Nat.le_refl _) (by simp [maxLen]) | exact ViewsB.arr 3 rfl (by first | assumption | rfl | (simp; done)) (Nat.le_refl _) (by simp [maxLen]) | exact ViewsB.arr 4 rfl (by first | assumption | rfl | (simp; done)) (Nat.le_refl _) (by simp [maxLen]) | exact ViewsB.of_drop 1 (by assumption) | exact ViewsB.of_drop 2 (by assumption) | exact ViewsB.of_drop 3 (by assumption) | exact ViewsB.of_drop 4 (by assumption) | exact ViewsB.of_drop 5 (by assumption) | exact ViewsB.of_drop 6 (by assumption) | exact ViewsB.of_drop 7 (by assumption) | exact ViewsB.of_drop 8 (by assumption) | exact ViewsB.of_drop 9 (by assumption) | exact ViewsB.of_drop 10 (by assumption) | exact ViewsB.of_drop 11 (by assumption) | exact ViewsB.of_drop 12 (by assumption) | exact ViewsB.sub (by first | exact ViewsB.own 0 rfl | exact ViewsB.own 1 rfl | exact ViewsB.own 2 rfl | exact ViewsB.own 3 rfl | exact ViewsB.own 4 rfl | exact ViewsB.own 5 rfl | assumption | exact ViewsB.nil _ | exact ViewsB.arr 0 rfl (by first | assumption | rfl | (simp; done)) (Nat.le_refl _) (by simp [maxLen]) | exact ViewsB.arr 1 rfl (by first | assumption | rfl | (simp; done)) (Nat.le_refl _) (by simp [maxLen]) | exact ViewsB.arr 2 rfl (by first | assumption | rfl | (simp; done)) (Nat.le_refl _) (by simp [maxLen]) | exact ViewsB.arr 3 rfl (by first | assumption | rfl | (simp; done)) (Nat.le_refl _) (by simp [maxLen]) | exact ViewsB.arr 4 rfl (by first | assumption | rfl | (simp; done)) (Nat.le_refl _) (by simp [maxLen]) | exact ViewsB.of_drop 1 (by assumption) | exact ViewsB.of_drop 2 (by assumption) | exact ViewsB.of_drop 3 (by assumption) | exact ViewsB.of_drop 4 (by assumption) | exact ViewsB.of_drop 5 (by assumption) | exact ViewsB.of_drop 6 (by assumption) | exact ViewsB.of_drop 7 (by assumption) | exact ViewsB.of_drop 8 (by assumption) | exact ViewsB.of_drop 9 (by assumption) | exact ViewsB.of_drop 10 (by assumption) | exact ViewsB.of_drop 11 (by assumption) | exact ViewsB.of_drop 12 (by assumption)) (by omega) (by first | omega | (simp; done) | (simp; omega))) h.2) rfl ?_))
          | (refine wl rfl (op_call h rfl K.go_disk_Disk_Crash (disk_Crash s _ _ _ _ _ _ 3 rfl (by first | assumption | exact Dk.OkN.ok' (by decide)) (by first | exact ViewsB.own 0 rfl | exact ViewsB.own 1 rfl | exact ViewsB.own 2 rfl | exact ViewsB.own 3 rfl | exact ViewsB.own 4 rfl | exact ViewsB.own 5 rfl | assumption | exact ViewsB.nil _ | exact ViewsB.arr 0 rfl (by first | assumption | rfl | (simp; done)) (Nat.le_refl _) (by simp [maxLen]) | exact ViewsB.arr 1 rfl (by first | assumption | rfl | (simp; done)) (Nat.le_refl _) (by simp [maxLen]) | exact ViewsB.arr 2 rfl (by first | assumption | rfl | (simp; done)) (Nat.le_refl _) (by simp [maxLen]) | exact ViewsB.arr 3 rfl (by first | assumption | rfl | (simp; done)) (Nat.le_refl _) (by simp [maxLen]) | exact ViewsB.arr 4 rfl (by first | assumption | rfl | (simp; done)) (Nat.le_refl _) (by simp [maxLen]) | exact ViewsB.of_drop 1 (by assumption) | exact ViewsB.of_drop 2 (by assumption) | exact ViewsB.of_drop 3 (by assumption) | exact ViewsB.of_drop 4 (by assumption) | exact ViewsB.of_drop 5 (by assumption) | exact ViewsB.of_drop 6 (by assumption) | exact ViewsB.of_drop 7 (by assumption) | exact ViewsB.of_drop 8 (by assumption) | exact ViewsB.of_drop 9 (by assumption) | exact ViewsB.of_drop 10 (by assumption) | exact ViewsB.of_drop 11 (by assumption) | exact ViewsB.of_drop 12 (by assumption) | exact ViewsB.sub (by first | exact ViewsB.own 0 rfl | exact ViewsB.own 1 rfl | exact ViewsB.own 2 rfl | exact ViewsB.own 3 rfl | exact ViewsB.own 4 rfl | exact ViewsB.own 5 rfl | assumption | exact ViewsB.nil _ | exact ViewsB.arr 0 rfl (by first | assumption | rfl | (simp; done)) (Nat.le_refl _) (by simp [maxLen]) | exact ViewsB.arr 1 rfl (by first | assumption | rfl | (simp; done)) (Nat.le_refl _) (by simp [maxLen]) | exact ViewsB.arr 2 rfl (by first | assumption | rfl | (simp; done)) (Nat.le_refl _) (by simp [maxLen]) | exact ViewsB.arr 3 rfl (by first | assumption | rfl | (simp; done)) (Nat.le_refl _) (by simp [maxLen]) | exact ViewsB.arr 4 rfl (by first | assumption | rfl | (simp; done)) (Nat.le_refl _) (by simp [maxLen]) | exact ViewsB.of_drop 1 (by assumption) | exact ViewsB.of_drop 2 (by assumption) | exact ViewsB.of_drop 3 (by assumption) | exact ViewsB.of_drop 4 (by assumption) | exact ViewsB.of_drop 5 (by assumption) | exact ViewsB.of_drop 6 (by assumption) | exact ViewsB.of_drop 7 (by assumption) | exact ViewsB.of_drop 8 (by assumption) | exact ViewsB.of_drop 9 (by assumption) | exact ViewsB.of_drop 10 (by assumption) | exact ViewsB.of_drop 11 (by assumption) | exact ViewsB.of_drop 12 (by assumption)) (by omega) (by first | omega | (simp; done) | (simp; omega))) h.2) rfl ?_))
          | (refine wl rfl (op_call h rfl K.go_disk_Disk_Crash (disk_Crash s _ _ _ _ _ _ 4 rfl (by first | assumption | exact Dk.OkN.ok' (by decide)) (by first | exact ViewsB.own 0 rfl | exact ViewsB.own 1 rfl | exact ViewsB.own 2 rfl | exact ViewsB.own 3 rfl | exact ViewsB.own 4 rfl | exact ViewsB.own 5 rfl | assumption | exact ViewsB.nil _ | exact ViewsB.arr 0 rfl (by first | assumption | rfl | (simp; done)) (Nat.le_refl _) (by simp [maxLen]) | exact ViewsB.arr 1 rfl (by first | assumption | rfl | (simp; done)) (Nat.le_refl _) (by simp [maxLen]) | exact ViewsB.arr 2 rfl (by first | assumption | rfl | (simp; done)) (Nat.le_refl _) (by simp [maxLen]) | exact ViewsB.arr 3 rfl (by first | assumption | rfl | (simp; done)) (Nat.le_refl _) (by simp [maxLen]) | exact ViewsB.arr 4 rfl (by first | assumption | rfl | (simp; done)) (Nat.le_refl _) (by simp [maxLen]) | exact ViewsB.of_drop 1 (by assumption) | exact ViewsB.of_drop 2 (by assumption) | exact ViewsB.of_drop 3 (by assumption) | exact ViewsB.of_drop 4 (by assumption) | exact ViewsB.of_drop 5 (by assumption) | exact ViewsB.of_drop 6 (by assumption) | exact ViewsB.of_drop 7 (by assumption) | exact ViewsB.of_drop 8 (by assumption) | exact ViewsB.of_drop 9 (by assumption) | exact ViewsB.of_drop 10 (by assumption) | exact ViewsB.of_drop 11 (by assumption) | exact ViewsB.of_drop 12 (by assumption) | exact ViewsB.sub (by first | exact ViewsB.own 0 rfl | exact ViewsB.own 1 rfl | exact ViewsB.own 2 rfl | exact ViewsB.own 3 rfl | exact ViewsB.own 4 rfl | exact ViewsB.own 5 rfl | assumption | exact ViewsB.nil _ | exact ViewsB.arr 0 rfl (by first | assumption | rfl | (simp; done)) (Nat.le_refl _) (by simp [maxLen]) | exact ViewsB.arr 1 rfl (by first | assumption | rfl | (simp; done)) (Nat.le_refl _) (by simp [maxLen]) | exact ViewsB.arr 2 rfl (by first | assumption | rfl | (simp; done)) (Nat.le_refl _) (by simp [maxLen]) | exact ViewsB.arr 3 rfl (by first | assumption | rfl | (simp; done)) (Nat.le_refl _) (by simp [maxLen]) | exact ViewsB.arr 4 rfl (by first | assumption | rfl | (simp; done)) (Nat.le_refl _) (by simp [maxLen]) | exact ViewsB.of_drop 1 (by assumption) | exact ViewsB.of_drop 2 (by assumption) | exact ViewsB.of_drop 3 (by assumption) | exact ViewsB.of_drop 4 (by assumption) | exact ViewsB.of_drop 5 (by assumption) | exact ViewsB.of_drop 6 (by assumption) | exact ViewsB.of_drop 7 (by assumption) | exact ViewsB.of_drop 8 (by assumption) | exact ViewsB.of_drop 9 (by assumption) | exact ViewsB.of_drop 10 (by assumption) | exact ViewsB.of_drop 11 (by assumption) | exact ViewsB.of_drop 12 (by assumption)) (by omega) (by first | omega | (simp; done) | (simp; omega))) h.2) rfl ?_))
          | (refine wl rfl (op_call h rfl K.go_disk_Disk_Crash (disk_Crash s _ _ _ _ _ _ 5 rfl (by first | assumption | exact Dk.OkN.ok' (by decide)) (by first | exact ViewsB.own 0 rfl | exact ViewsB.own 1 rfl | exact ViewsB.own 2 rfl | exact ViewsB.own 3 rfl | exact ViewsB.own 4 rfl | exact ViewsB.own 5 rfl | assumption | exact ViewsB.nil _ | exact ViewsB.arr 0 rfl (by first | assumption | rfl | (simp; done)) (Nat.le_refl _) (by simp [maxLen]) | exact ViewsB.arr 1 rfl (by first | assumption | rfl | (simp; done)) (Nat.le_refl _) (by simp [maxLen]) | exact ViewsB.arr 2 rfl (by first | assumption | rfl | (simp; done)) (Nat.le_refl _) (by simp [maxLen]) | exact ViewsB.arr 3 rfl (by first | assumption | rfl | (simp; done)) (Nat.le_refl _) (by simp [maxLen]) | exact ViewsB.arr 4 rfl (by first | assumption | rfl | (simp; done)) (Nat.le_refl _) (by simp [maxLen]) | exact ViewsB.of_drop 1 (by assumption) | exact ViewsB.of_drop 2 (by assumption) | exact ViewsB.of_drop 3 (by assumption) | exact ViewsB.of_drop 4 (by assumption) | exact ViewsB.of_drop 5 (by assumption) | exact ViewsB.of_drop 6 (by assumption) | exact ViewsB.of_drop 7 (by assumption) | exact ViewsB.of_drop 8 (by assumption) | exact ViewsB.of_drop 9 (by assumption) | exact ViewsB.of_drop 10 (by assumption) | exact ViewsB.of_drop 11 (by assumption) | exact ViewsB.of_drop 12 (by assumption) | exact ViewsB.sub (by first | exact ViewsB.own 0 rfl | exact ViewsB.own 1 rfl | exact ViewsB.own 2 rfl | exact ViewsB.own 3 rfl | exact ViewsB.own 4 rfl | exact ViewsB.own 5 rfl | assumption | exact ViewsB.nil _ | exact ViewsB.arr 0 rfl (by first | assumption | rfl | (simp; done)) (Nat.le_refl _) (by simp [maxLen]) | exact ViewsB.arr 1 rfl (by first | assumption | rfl | (simp; done)) (Nat.le_refl _) (by simp [maxLen]) | exact ViewsB.arr 2 rfl (by first | assumption | rfl | (simp; done)) (Nat.le_refl _) (by simp [maxLen]) | exact ViewsB.arr 3 rfl (by first | assumption | rfl | (simp; done)) (Nat.le_refl _) (by simp [maxLen]) | exact ViewsB.arr 4 rfl (by first | assumption | rfl | (simp; done)) (Nat.le_refl _) (by simp [maxLen]) | exact ViewsB.of_drop 1 (by assumption) | exact ViewsB.of_drop 2 (by assumption) | exact ViewsB.of_drop 3 (by assumption) | exact ViewsB.of_drop 4 (by assumption) | exact ViewsB.of_drop 5 (by assumption) | exact ViewsB.of_drop 6 (by assumption) | exact ViewsB.of_drop 7 (by assumption) | exact ViewsB.of_drop 8 (by assumption) | exact ViewsB.of_drop 9 (by assumption) | exact ViewsB.of_drop 10 (by assumption) | exact ViewsB.of_drop 11 (by assumption) | exact ViewsB.of_drop 12 (by assumption)) (by omega) (by first | omega | (simp; done) | (simp; omega))) h.2) rfl ?_))
     clear h a w; intro x a w hx h
     (try simp only [List.set_cons_zero, List.set_cons_succ] at h)
     generalize D7.crash mask = D8 at *
     refine wnil (c_then ?_)
     refine c_seq (c_region ?_)
     refine wv h (r_move h rfl) rfl ?_
     clear h a w; intro a w h
     replace h := h.front 1 rfl
     refine wl rfl (op_call h rfl K.go_journal_Open (jn_Open s _ b9 D8 _ J6.ok J6.mid.off (by rw [J6.len]; rcases hm6' with e | ⟨e, _⟩ <;> rw [e] <;> simp [hm6]) (by have := J6.acts; omega) h.2) rfl ?_)
     clear h a w; intro bk a w hx h
     (try simp only [List.set_cons_zero, List.set_cons_succ] at h)
     rw [if_pos o4, o4] at h
     have k8 := o5.ok
     have hl6 : m6.length = 6 := by rcases hm6' with e | ⟨e, _⟩ <;> rw [e] <;> simp [hm6]
     obtain ⟨r1, r2⟩ := Jn.js_read o5 (c := 0) (by omega)
     obtain ⟨r3, r4⟩ := Jn.js_read o5 (c := 5) (by omega)
     have hfin : ∃ t, m6.getD 0 B64.zero = B64.of t ∧ m6.getD 5 B64.zero = B64.of t ∧ (t = [110, 101, 119] ∨ t = [111, 108, 100] ∧ e7 = 9) := by
       rcases hm6' with e | ⟨e, q⟩
       · have := Both.put hm6 [110, 101, 119]
         rw [e]; exact ⟨_, this.2.1, this.2.2, .inl rfl⟩
       · rw [e]; exact ⟨_, z3.2.1, z3.2.2, .inr ⟨rfl, q⟩⟩
     obtain ⟨t, hf1, hf2, hf3⟩ := hfin
     rw [hf1] at r2
     rw [hf2] at r4
     generalize (Jn.openN D8).1 = D9 at *
     have h64 : (B64.of t).val.length = 64 := by simp
     refine wv h (r_move h rfl) rfl ?_
     clear h a w; intro a w h
     refine wv h (r_extractN h rfl rfl) rfl ?_
     clear h a w; intro a w h
     refine wv h (r_extractN h rfl rfl) rfl ?_
     clear h a w; intro a w h
     refine wv h (r_assign h rfl) rfl ?_
     clear h a w; intro a w h
     refine wv h (r_assign h rfl) rfl ?_
     clear h a w; intro a w h
     refine wnil (c_then ?_)
     refine c_seq ?_
     refine c_seq (c_region ?_)
     refine wv h (r_move h rfl) rfl ?_
     clear h a w; intro a w h
     refine wv h (r_bin h rfl rfl (B.neq_int)) rfl ?_
     clear h a w; intro a w h
     refine wnil (c_then ?_)
     first
      | refine c_condD h rfl (fun ht4 => ?_) (fun ht4 => ?_)
      | refine c_condP h rfl (by first | (simp only [Bool.and_eq_true, Bool.or_eq_true, Bool.not_eq_true', decide_eq_true_eq, decide_eq_false_iff_not, ne_eq, Bool.not_eq_eq_eq_not, Bool.not_true, beq_iff_eq, bne_iff_ne]; exact Iff.rfl) | exact Iff.rfl) (fun ht4 => ?_) (fun ht4 => ?_)
     ·
      exfalso
      simp at ht4
     ·
      refine c_skip ?_
      refine c_then ?_
      refine c_seq (c_region ?_)
      refine wv h (r_move h rfl) rfl ?_
      clear h a w; intro a w h
      first
            | (refine wl rfl (op_call h rfl K.go_journal_Journal_Read (jn_Read s _ _ _ _ _ _ _ 0 rfl (by first | assumption | exact Dk.OkN.ok' (by decide)) h.2) rfl ?_))
            | (refine wl rfl (op_call h rfl K.go_journal_Journal_Read (jn_Read s _ _ _ _ _ _ _ 1 rfl (by first | assumption | exact Dk.OkN.ok' (by decide)) h.2) rfl ?_))
            | (refine wl rfl (op_call h rfl K.go_journal_Journal_Read (jn_Read s _ _ _ _ _ _ _ 2 rfl (by first | assumption | exact Dk.OkN.ok' (by decide)) h.2) rfl ?_))
            | (refine wl rfl (op_call h rfl K.go_journal_Journal_Read (jn_Read s _ _ _ _ _ _ _ 3 rfl (by first | assumption | exact Dk.OkN.ok' (by decide)) h.2) rfl ?_))
            | (refine wl rfl (op_call h rfl K.go_journal_Journal_Read (jn_Read s _ _ _ _ _ _ _ 4 rfl (by first | assumption | exact Dk.OkN.ok' (by decide)) h.2) rfl ?_))
            | (refine wl rfl (op_call h rfl K.go_journal_Journal_Read (jn_Read s _ _ _ _ _ _ _ 5 rfl (by first | assumption | exact Dk.OkN.ok' (by decide)) h.2) rfl ?_))
      clear h a w; intro v79 a w hx h
      (try simp only [List.set_cons_zero, List.set_cons_succ] at h)
      rw [show jErr D9 0 = 0 from r1, show jVal D9 0 = (B64.of t).val from r2] at h
      refine wv h (r_move h rfl) rfl ?_
      clear h a w; intro a w h
      refine wv h (r_extractN h rfl rfl) rfl ?_
      clear h a w; intro a w h
      refine wv h (r_extractN h rfl rfl) rfl ?_
      clear h a w; intro a w h
      refine wv h (r_assign h rfl) rfl ?_
      clear h a w; intro a w h
      refine wv h (r_assign h rfl) rfl ?_
      clear h a w; intro a w h
      refine wnil (c_then ?_)
      refine c_seq (c_region ?_)
      refine wv h (r_move h rfl) rfl ?_
      clear h a w; intro a w h
      first
            | (refine wl rfl (op_call h rfl K.go_journal_Journal_Read (jn_Read s _ _ _ _ _ _ _ 0 rfl (by first | assumption | exact Dk.OkN.ok' (by decide)) h.2) rfl ?_))
            | (refine wl rfl (op_call h rfl K.go_journal_Journal_Read (jn_Read s _ _ _ _ _ _ _ 1 rfl (by first | assumption | exact Dk.OkN.ok' (by decide)) h.2) rfl ?_))
            | (refine wl rfl (op_call h rfl K.go_journal_Journal_Read (jn_Read s _ _ _ _ _ _ _ 2 rfl (by first | assumption | exact Dk.OkN.ok' (by decide)) h.2) rfl ?_))
            | (refine wl rfl (op_call h rfl K.go_journal_Journal_Read (jn_Read s _ _ _ _ _ _ _ 3 rfl (by first | assumption | exact Dk.OkN.ok' (by decide)) h.2) rfl ?_))
            | (refine wl rfl (op_call h rfl K.go_journal_Journal_Read (jn_Read s _ _ _ _ _ _ _ 4 rfl (by first | assumption | exact Dk.OkN.ok' (by decide)) h.2) rfl ?_))
            | (refine wl rfl (op_call h rfl K.go_journal_Journal_Read (jn_Read s _ _ _ _ _ _ _ 5 rfl (by first | assumption | exact Dk.OkN.ok' (by decide)) h.2) rfl ?_))
      clear h a w; intro v84 a w hx h
      (try simp only [List.set_cons_zero, List.set_cons_succ] at h)
      rw [show jErr D9 5 = 0 from r3, show jVal D9 5 = (B64.of t).val from r4] at h
      refine wv h (r_move h rfl) rfl ?_
      clear h a w; intro a w h
      refine wv h (r_extractN h rfl rfl) rfl ?_
      clear h a w; intro a w h
      refine wv h (r_extractN h rfl rfl) rfl ?_
      clear h a w; intro a w h
      refine wv h (r_assign h rfl) rfl ?_
      clear h a w; intro a w h
      refine wv h (r_assign h rfl) rfl ?_
      clear h a w; intro a w h
      refine wnil (c_then ?_)
      refine c_seq (c_region ?_)
      refine wv h (r_move h rfl) rfl ?_
      clear h a w; intro a w h
      refine wv h (r_sliceB h rfl K.u_S_uint8 K.sz_uint8 (by first | exact ViewsB.own 0 rfl | exact ViewsB.own 1 rfl | exact ViewsB.own 2 rfl | exact ViewsB.own 3 rfl | exact ViewsB.own 4 rfl | exact ViewsB.own 5 rfl | assumption | exact ViewsB.nil _ | exact ViewsB.arr 0 rfl (by first | assumption | rfl | (simp; done)) (Nat.le_refl _) (by simp [maxLen]) | exact ViewsB.arr 1 rfl (by first | assumption | rfl | (simp; done)) (Nat.le_refl _) (by simp [maxLen]) | exact ViewsB.arr 2 rfl (by first | assumption | rfl | (simp; done)) (Nat.le_refl _) (by simp [maxLen]) | exact ViewsB.arr 3 rfl (by first | assumption | rfl | (simp; done)) (Nat.le_refl _) (by simp [maxLen]) | exact ViewsB.arr 4 rfl (by first | assumption | rfl | (simp; done)) (Nat.le_refl _) (by simp [maxLen]) | exact ViewsB.of_drop 1 (by assumption) | exact ViewsB.of_drop 2 (by assumption) | exact ViewsB.of_drop 3 (by assumption) | exact ViewsB.of_drop 4 (by assumption) | exact ViewsB.of_drop 5 (by assumption) | exact ViewsB.of_drop 6 (by assumption) | exact ViewsB.of_drop 7 (by assumption) | exact ViewsB.of_drop 8 (by assumption) | exact ViewsB.of_drop 9 (by assumption) | exact ViewsB.of_drop 10 (by assumption) | exact ViewsB.of_drop 11 (by assumption) | exact ViewsB.of_drop 12 (by assumption) | exact ViewsB.sub (by first | exact ViewsB.own 0 rfl | exact ViewsB.own 1 rfl | exact ViewsB.own 2 rfl | exact ViewsB.own 3 rfl | exact ViewsB.own 4 rfl | exact ViewsB.own 5 rfl | assumption | exact ViewsB.nil _ | exact ViewsB.arr 0 rfl (by first | assumption | rfl | (simp; done)) (Nat.le_refl _) (by simp [maxLen]) | exact ViewsB.arr 1 rfl (by first | assumption | rfl | (simp; done)) (Nat.le_refl _) (by simp [maxLen]) | exact ViewsB.arr 2 rfl (by first | assumption | rfl | (simp; done)) (Nat.le_refl _) (by simp [maxLen]) | exact ViewsB.arr 3 rfl (by first | assumption | rfl | (simp; done)) (Nat.le_refl _) (by simp [maxLen]) | exact ViewsB.arr 4 rfl (by first | assumption | rfl | (simp; done)) (Nat.le_refl _) (by simp [maxLen]) | exact ViewsB.of_drop 1 (by assumption) | exact ViewsB.of_drop 2 (by assumption) | exact ViewsB.of_drop 3 (by assumption) | exact ViewsB.of_drop 4 (by assumption) | exact ViewsB.of_drop 5 (by assumption) | exact ViewsB.of_drop 6 (by assumption) | exact ViewsB.of_drop 7 (by assumption) | exact ViewsB.of_drop 8 (by assumption) | exact ViewsB.of_drop 9 (by assumption) | exact ViewsB.of_drop 10 (by assumption) | exact ViewsB.of_drop 11 (by assumption) | exact ViewsB.of_drop 12 (by assumption)) (by omega) (by first | omega | (simp; done) | (simp; omega))) _ _ Bnd.no (Bnd.of rfl (by omega)) (by first | omega | (simp only [List.length_cons, List.length_nil]; omega) | (simp; done) | (simp; omega)) (by first | omega | (simp only [List.length_cons, List.length_nil]; omega) | (simp; done) | (simp; omega))) rfl ?_
      clear h a w; intro a w h
      refine wv h (r_b2sb h rfl K.u_S_uint8 K.u_uint8 K.u_string (by first | exact ViewsB.own 0 rfl | exact ViewsB.own 1 rfl | exact ViewsB.own 2 rfl | exact ViewsB.own 3 rfl | exact ViewsB.own 4 rfl | exact ViewsB.own 5 rfl | assumption | exact ViewsB.nil _ | exact ViewsB.arr 0 rfl (by first | assumption | rfl | (simp; done)) (Nat.le_refl _) (by simp [maxLen]) | exact ViewsB.arr 1 rfl (by first | assumption | rfl | (simp; done)) (Nat.le_refl _) (by simp [maxLen]) | exact ViewsB.arr 2 rfl (by first | assumption | rfl | (simp; done)) (Nat.le_refl _) (by simp [maxLen]) | exact ViewsB.arr 3 rfl (by first | assumption | rfl | (simp; done)) (Nat.le_refl _) (by simp [maxLen]) | exact ViewsB.arr 4 rfl (by first | assumption | rfl | (simp; done)) (Nat.le_refl _) (by simp [maxLen]) | exact ViewsB.of_drop 1 (by assumption) | exact ViewsB.of_drop 2 (by assumption) | exact ViewsB.of_drop 3 (by assumption) | exact ViewsB.of_drop 4 (by assumption) | exact ViewsB.of_drop 5 (by assumption) | exact ViewsB.of_drop 6 (by assumption) | exact ViewsB.of_drop 7 (by assumption) | exact ViewsB.of_drop 8 (by assumption) | exact ViewsB.of_drop 9 (by assumption) | exact ViewsB.of_drop 10 (by assumption) | exact ViewsB.of_drop 11 (by assumption) | exact ViewsB.of_drop 12 (by assumption) | exact ViewsB.sub (by first | exact ViewsB.own 0 rfl | exact ViewsB.own 1 rfl | exact ViewsB.own 2 rfl | exact ViewsB.own 3 rfl | exact ViewsB.own 4 rfl | exact ViewsB.own 5 rfl | assumption | exact ViewsB.nil _ | exact ViewsB.arr 0 rfl (by first | assumption | rfl | (simp; done)) (Nat.le_refl _) (by simp [maxLen]) | exact ViewsB.arr 1 rfl (by first | assumption | rfl | (simp; done)) (Nat.le_refl _) (by simp [maxLen]) | exact ViewsB.arr 2 rfl (by first | assumption | rfl | (simp; done)) (Nat.le_refl _) (by simp [maxLen]) | exact ViewsB.arr 3 rfl (by first | assumption | rfl | (simp; done)) (Nat.le_refl _) (by simp [maxLen]) | exact ViewsB.arr 4 rfl (by first | assumption | rfl | (simp; done)) (Nat.le_refl _) (by simp [maxLen]) | exact ViewsB.of_drop 1 (by assumption) | exact ViewsB.of_drop 2 (by assumption) | exact ViewsB.of_drop 3 (by assumption) | exact ViewsB.of_drop 4 (by assumption) | exact ViewsB.of_drop 5 (by assumption) | exact ViewsB.of_drop 6 (by assumption) | exact ViewsB.of_drop 7 (by assumption) | exact ViewsB.of_drop 8 (by assumption) | exact ViewsB.of_drop 9 (by assumption) | exact ViewsB.of_drop 10 (by assumption) | exact ViewsB.of_drop 11 (by assumption) | exact ViewsB.of_drop 12 (by assumption)) (by omega) (by first | omega | (simp; done) | (simp; omega)))) rfl ?_
      clear h a w; intro a w h
      refine wv h (r_assign h rfl) rfl ?_
      clear h a w; intro a w h
      refine wnil (c_then ?_)
      refine c_seq (c_region ?_)
      refine wv h (r_move h rfl) rfl ?_
      clear h a w; intro a w h
      refine wv h (r_move h rfl) rfl ?_
      clear h a w; intro a w h
      refine wv h (r_sliceB h rfl K.u_S_uint8 K.sz_uint8 (by first | exact ViewsB.own 0 rfl | exact ViewsB.own 1 rfl | exact ViewsB.own 2 rfl | exact ViewsB.own 3 rfl | exact ViewsB.own 4 rfl | exact ViewsB.own 5 rfl | assumption | exact ViewsB.nil _ | exact ViewsB.arr 0 rfl (by first | assumption | rfl | (simp; done)) (Nat.le_refl _) (by simp [maxLen]) | exact ViewsB.arr 1 rfl (by first | assumption | rfl | (simp; done)) (Nat.le_refl _) (by simp [maxLen]) | exact ViewsB.arr 2 rfl (by first | assumption | rfl | (simp; done)) (Nat.le_refl _) (by simp [maxLen]) | exact ViewsB.arr 3 rfl (by first | assumption | rfl | (simp; done)) (Nat.le_refl _) (by simp [maxLen]) | exact ViewsB.arr 4 rfl (by first | assumption | rfl | (simp; done)) (Nat.le_refl _) (by simp [maxLen]) | exact ViewsB.of_drop 1 (by assumption) | exact ViewsB.of_drop 2 (by assumption) | exact ViewsB.of_drop 3 (by assumption) | exact ViewsB.of_drop 4 (by assumption) | exact ViewsB.of_drop 5 (by assumption) | exact ViewsB.of_drop 6 (by assumption) | exact ViewsB.of_drop 7 (by assumption) | exact ViewsB.of_drop 8 (by assumption) | exact ViewsB.of_drop 9 (by assumption) | exact ViewsB.of_drop 10 (by assumption) | exact ViewsB.of_drop 11 (by assumption) | exact ViewsB.of_drop 12 (by assumption) | exact ViewsB.sub (by first | exact ViewsB.own 0 rfl | exact ViewsB.own 1 rfl | exact ViewsB.own 2 rfl | exact ViewsB.own 3 rfl | exact ViewsB.own 4 rfl | exact ViewsB.own 5 rfl | assumption | exact ViewsB.nil _ | exact ViewsB.arr 0 rfl (by first | assumption | rfl | (simp; done)) (Nat.le_refl _) (by simp [maxLen]) | exact ViewsB.arr 1 rfl (by first | assumption | rfl | (simp; done)) (Nat.le_refl _) (by simp [maxLen]) | exact ViewsB.arr 2 rfl (by first | assumption | rfl | (simp; done)) (Nat.le_refl _) (by simp [maxLen]) | exact ViewsB.arr 3 rfl (by first | assumption | rfl | (simp; done)) (Nat.le_refl _) (by simp [maxLen]) | exact ViewsB.arr 4 rfl (by first | assumption | rfl | (simp; done)) (Nat.le_refl _) (by simp [maxLen]) | exact ViewsB.of_drop 1 (by assumption) | exact ViewsB.of_drop 2 (by assumption) | exact ViewsB.of_drop 3 (by assumption) | exact ViewsB.of_drop 4 (by assumption) | exact ViewsB.of_drop 5 (by assumption) | exact ViewsB.of_drop 6 (by assumption) | exact ViewsB.of_drop 7 (by assumption) | exact ViewsB.of_drop 8 (by assumption) | exact ViewsB.of_drop 9 (by assumption) | exact ViewsB.of_drop 10 (by assumption) | exact ViewsB.of_drop 11 (by assumption) | exact ViewsB.of_drop 12 (by assumption)) (by omega) (by first | omega | (simp; done) | (simp; omega))) _ _ Bnd.no (Bnd.of rfl (by omega)) (by first | omega | (simp only [List.length_cons, List.length_nil]; omega) | (simp; done) | (simp; omega)) (by first | omega | (simp only [List.length_cons, List.length_nil]; omega) | (simp; done) | (simp; omega))) rfl ?_
      clear h a w; intro a w h
      refine wv h (r_b2sb h rfl K.u_S_uint8 K.u_uint8 K.u_string (by first | exact ViewsB.own 0 rfl | exact ViewsB.own 1 rfl | exact ViewsB.own 2 rfl | exact ViewsB.own 3 rfl | exact ViewsB.own 4 rfl | exact ViewsB.own 5 rfl | assumption | exact ViewsB.nil _ | exact ViewsB.arr 0 rfl (by first | assumption | rfl | (simp; done)) (Nat.le_refl _) (by simp [maxLen]) | exact ViewsB.arr 1 rfl (by first | assumption | rfl | (simp; done)) (Nat.le_refl _) (by simp [maxLen]) | exact ViewsB.arr 2 rfl (by first | assumption | rfl | (simp; done)) (Nat.le_refl _) (by simp [maxLen]) | exact ViewsB.arr 3 rfl (by first | assumption | rfl | (simp; done)) (Nat.le_refl _) (by simp [maxLen]) | exact ViewsB.arr 4 rfl (by first | assumption | rfl | (simp; done)) (Nat.le_refl _) (by simp [maxLen]) | exact ViewsB.of_drop 1 (by assumption) | exact ViewsB.of_drop 2 (by assumption) | exact ViewsB.of_drop 3 (by assumption) | exact ViewsB.of_drop 4 (by assumption) | exact ViewsB.of_drop 5 (by assumption) | exact ViewsB.of_drop 6 (by assumption) | exact ViewsB.of_drop 7 (by assumption) | exact ViewsB.of_drop 8 (by assumption) | exact ViewsB.of_drop 9 (by assumption) | exact ViewsB.of_drop 10 (by assumption) | exact ViewsB.of_drop 11 (by assumption) | exact ViewsB.of_drop 12 (by assumption) | exact ViewsB.sub (by first | exact ViewsB.own 0 rfl | exact ViewsB.own 1 rfl | exact ViewsB.own 2 rfl | exact ViewsB.own 3 rfl | exact ViewsB.own 4 rfl | exact ViewsB.own 5 rfl | assumption | exact ViewsB.nil _ | exact ViewsB.arr 0 rfl (by first | assumption | rfl | (simp; done)) (Nat.le_refl _) (by simp [maxLen]) | exact ViewsB.arr 1 rfl (by first | assumption | rfl | (simp; done)) (Nat.le_refl _) (by simp [maxLen]) | exact ViewsB.arr 2 rfl (by first | assumption | rfl | (simp; done)) (Nat.le_refl _) (by simp [maxLen]) | exact ViewsB.arr 3 rfl (by first | assumption | rfl | (simp; done)) (Nat.le_refl _) (by simp [maxLen]) | exact ViewsB.arr 4 rfl (by first | assumption | rfl | (simp; done)) (Nat.le_refl _) (by simp [maxLen]) | exact ViewsB.of_drop 1 (by assumption) | exact ViewsB.of_drop 2 (by assumption) | exact ViewsB.of_drop 3 (by assumption) | exact ViewsB.of_drop 4 (by assumption) | exact ViewsB.of_drop 5 (by assumption) | exact ViewsB.of_drop 6 (by assumption) | exact ViewsB.of_drop 7 (by assumption) | exact ViewsB.of_drop 8 (by assumption) | exact ViewsB.of_drop 9 (by assumption) | exact ViewsB.of_drop 10 (by assumption) | exact ViewsB.of_drop 11 (by assumption) | exact ViewsB.of_drop 12 (by assumption)) (by omega) (by first | omega | (simp; done) | (simp; omega)))) rfl ?_
      clear h a w; intro a w h
      refine wv h (r_streq h rfl rfl) rfl ?_
      clear h a w; intro a w h
      refine wv h (r_move h rfl) rfl ?_
      clear h a w; intro a w h
      refine wvG h (by first | exact .t rfl | exact .f rfl | exact .gt rfl | exact .gf rfl) (fun hg => by (try simp only [↓gval_on hg, ↓gval_and hg] at h); (have hg2 := hg; (try simp only [Bool.and_eq_true, Bool.or_eq_true, Bool.not_eq_true', decide_eq_true_eq, decide_eq_false_iff_not] at hg2)); first | exact r_move h rfl) rfl ?_
      clear h a w; intro a w h
      refine wvG h (by first | exact .t rfl | exact .f rfl | exact .gt rfl | exact .gf rfl) (fun hg => by (try simp only [↓gval_on hg, ↓gval_and hg] at h); (have hg2 := hg; (try simp only [Bool.and_eq_true, Bool.or_eq_true, Bool.not_eq_true', decide_eq_true_eq, decide_eq_false_iff_not] at hg2)); first | exact r_streq h rfl rfl) rfl ?_
      clear h a w; intro a w h
      refine wvG h (by first | exact .t rfl | exact .f rfl | exact .gt rfl | exact .gf rfl) (fun hg => by (try simp only [↓gval_on hg, ↓gval_and hg] at h); (have hg2 := hg; (try simp only [Bool.and_eq_true, Bool.or_eq_true, Bool.not_eq_true', decide_eq_true_eq, decide_eq_false_iff_not] at hg2)); first | exact r_move h rfl) rfl ?_
      clear h a w; intro a w h
      refine wvG h (by first | exact .t rfl | exact .f rfl | exact .gt rfl | exact .gf rfl) (fun hg => by (try simp only [↓gval_on hg, ↓gval_and hg] at h); (have hg2 := hg; (try simp only [Bool.and_eq_true, Bool.or_eq_true, Bool.not_eq_true', decide_eq_true_eq, decide_eq_false_iff_not] at hg2)); first | exact r_move h rfl) rfl ?_
      clear h a w; intro a w h
      refine wvG h (by first | exact .t rfl | exact .f rfl | exact .gt rfl | exact .gf rfl) (fun hg => by (try simp only [↓gval_on hg, ↓gval_and hg] at h); (have hg2 := hg; (try simp only [Bool.and_eq_true, Bool.or_eq_true, Bool.not_eq_true', decide_eq_true_eq, decide_eq_false_iff_not] at hg2)); first | exact r_streq h rfl rfl) rfl ?_
      clear h a w; intro a w h
      refine wvG h (by first | exact .t rfl | exact .f rfl | exact .gt rfl | exact .gf rfl) (fun hg => by (try simp only [↓gval_on hg, ↓gval_and hg] at h); (have hg2 := hg; (try simp only [Bool.and_eq_true, Bool.or_eq_true, Bool.not_eq_true', decide_eq_true_eq, decide_eq_false_iff_not] at hg2)); first | exact r_move h rfl) rfl ?_
      clear h a w; intro a w h
      refine wvG h (by first | exact .t rfl | exact .f rfl | exact .gt rfl | exact .gf rfl) (fun hg => by (try simp only [↓gval_on hg, ↓gval_and hg] at h); (have hg2 := hg; (try simp only [Bool.and_eq_true, Bool.or_eq_true, Bool.not_eq_true', decide_eq_true_eq, decide_eq_false_iff_not] at hg2)); first | exact r_move h rfl) rfl ?_
      clear h a w; intro a w h
      refine wvG h (by first | exact .t rfl | exact .f rfl | exact .gt rfl | exact .gf rfl) (fun hg => by (try simp only [↓gval_on hg, ↓gval_and hg] at h); (have hg2 := hg; (try simp only [Bool.and_eq_true, Bool.or_eq_true, Bool.not_eq_true', decide_eq_true_eq, decide_eq_false_iff_not] at hg2)); first | exact r_bin h rfl rfl (B.eql_int)) rfl ?_
      clear h a w; intro a w h
      refine wvG h (by first | exact .t rfl | exact .f rfl | exact .gt rfl | exact .gf rfl) (fun hg => by (try simp only [↓gval_on hg, ↓gval_and hg] at h); (have hg2 := hg; (try simp only [Bool.and_eq_true, Bool.or_eq_true, Bool.not_eq_true', decide_eq_true_eq, decide_eq_false_iff_not] at hg2)); first | exact r_pickA h rfl rfl rfl | exact r_pickO h rfl rfl rfl | exact r_pick_true h rfl rfl | exact r_pick_false h rfl rfl | exact r_pick h rfl rfl rfl) rfl ?_
      clear h a w; intro a w h
      refine wvG h (by first | exact .t rfl | exact .f rfl | exact .gt rfl | exact .gf rfl) (fun hg => by (try simp only [↓gval_on hg, ↓gval_and hg] at h); (have hg2 := hg; (try simp only [Bool.and_eq_true, Bool.or_eq_true, Bool.not_eq_true', decide_eq_true_eq, decide_eq_false_iff_not] at hg2)); first | exact r_pickA h rfl rfl rfl | exact r_pickO h rfl rfl rfl | exact r_pick_true h rfl rfl | exact r_pick_false h rfl rfl | exact r_pick h rfl rfl rfl) rfl ?_
      clear h a w; intro a w h
      first
            | (refine wv h (r_pickA h rfl rfl rfl) rfl ?_)
            | (refine wv h (r_pickO h rfl rfl rfl) rfl ?_)
            | (refine wv h (r_pick_true h rfl rfl) rfl ?_)
            | (refine wv h (r_pick_false h rfl rfl) rfl ?_)
            | (refine wv h (r_pick h rfl rfl rfl) rfl ?_)
      clear h a w; intro a w h
      refine wv h (r_assign h rfl) rfl ?_
      clear h a w; intro a w h
      refine wnil (c_then ?_)
      refine c_ret ?_
      refine ret1 h rfl rfl ⟨(), ret_true ?_, (by first | exact h.2 | exact h.2.drop 1 | exact h.2.drop 2 | exact h.2.drop 3 | exact h.2.drop 4 | exact h.2.drop 5 | exact h.2.drop 6 | exact h.2.drop 7 | exact h.2.drop 8 | exact h.2.drop 9 | exact h.2.drop 10 | exact h.2.drop 11 | exact h.2.drop 12 | exact h.2.drop 13 | exact h.2.drop 14 | exact h.2.drop 15 | exact h.2.drop 16), trivial⟩
      rcases hf3 with e | ⟨e, q⟩
      · rw [e, show ((B64.of [110, 101, 119]).val.drop 0).take (3 - 0) = [110, 101, 119] by decide +kernel]; simp
      · rw [e, q]; decide +kernel
end Go.Proofs.K
