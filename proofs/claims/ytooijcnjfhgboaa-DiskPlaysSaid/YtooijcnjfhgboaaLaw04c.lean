/- The law of layer 4 on any acts: what each sector tells, what is safe. -/
import Derived.Test.YtooijcnjfhgboaaLaw04
import Derived.Test.YtooijcnjfhgboaaAppendZ
set_option linter.unusedVariables false
set_option linter.unusedSimpArgs false
set_option maxRecDepth 10000
set_option maxHeartbeats 4000000
namespace Go.Sl
/-- an act, its bytes a slice -/
structure DA where
  k : UInt8
  at_ : Int
  sa : Option Addr
  sl : Nat
  sc : Nat
  p : List UInt8
def cellsDA (x : DA) : List Value := [bv x.k, .int .i64 x.at_, .slice x.sa x.sl x.sc]
instance : Row cellsDA 3 := ⟨fun _ => rfl, fun x u hu => by
  simp only [cellsDA, List.mem_cons, List.not_mem_nil, or_false] at hu
  rcases hu with rfl | rfl | rfl <;> rfl⟩
def wetI (D : Dk) : List Int := D.wet.map fun q => (q.1 : Int)
theorem wetI_len (D : Dk) : (wetI D).length = D.wet.length := by simp [wetI]
theorem wetI_get {D : Dk} {j : Nat} {q : Nat × B64} (h : D.wet[j]? = some q) : (wetI D).getD j 0 = (q.1 : Int) := by
  rw [List.getD_eq_getElem?_getD, wetI, List.getElem?_map, h]; rfl
/-- what the law holds of a disk: its own rows -/
structure PS where
  D : Dk
  vs : Value
  S : List Value
  va : Value
  vw : Value
  W : List Value
  G : List HItem
def SafeV (R : List HItem) (S : List Value) (safe : List B64) : Prop := S.length = safe.length ∧ ∀ (i : Nat) (u : Value), S[i]? = some u → ViewsB R u (safe.getD i B64.zero).val
def PSok (F : List HItem) (k N : Nat) (x : PS) : Prop := x.D.ok ∧ x.D.acts ≤ N ∧ x.D.safe.length = k ∧ SafeV (x.G ++ F) x.S x.D.safe ∧ x.W.length = x.D.wet.length ∧
  ∀ (j : Nat) (u : Value) (q : Nat × B64), x.W[j]? = some u → x.D.wet[j]? = some q → ViewsB (x.G ++ F) u q.2.val
theorem keepL_snoc (f : Nat → Bool) (q : Nat × B64) : ∀ (l : List (Nat × B64)) (i : Nat) (S : List B64), Dk.keepL f i (l ++ [q]) S = if f (i + l.length) then (Dk.keepL f i l S).set q.1 q.2 else Dk.keepL f i l S
  | [], i, S => by simp [Dk.keepL]
  | r :: l, i, S => by rw [List.cons_append, Dk.keepL, keepL_snoc f q l, Dk.keepL, List.length_cons, show i + 1 + l.length = i + (l.length + 1) by omega]
theorem keepL_take (f : Nat → Bool) {l : List (Nat × B64)} {j : Nat} {q : Nat × B64} (h : l[j]? = some q) (S : List B64) : Dk.keepL f 0 (l.take (j + 1)) S = if f j then (Dk.keepL f 0 (l.take j) S).set q.1 q.2 else Dk.keepL f 0 (l.take j) S := by
  have hlt : j < l.length := (List.getElem?_eq_some_iff.1 h).1
  rw [List.take_add_one, h, Option.toList_some, keepL_snoc, List.length_take, Nat.min_eq_left (by omega), Nat.zero_add]
theorem SafeV.set {R : List HItem} {S : List Value} {safe : List B64} (h : SafeV R S safe) {i : Nat} {u : Value} {b : B64} (hu : ViewsB R u b.val) : SafeV R (S.set i u) (safe.set i b) := by
  refine ⟨by simp [h.1], fun j v hj => ?_⟩
  by_cases e : i = j
  · subst e
    have hlt : i < S.length := by
      have := (List.getElem?_eq_some_iff.1 hj).1
      simpa using this
    rw [List.getElem?_set_self hlt] at hj
    cases hj
    rw [List.getD_eq_getElem?_getD, List.getElem?_set_self (by rw [← h.1]; exact hlt)]
    exact hu
  · rw [List.getElem?_set_ne e] at hj
    rw [List.getD_eq_getElem?_getD, List.getElem?_set_ne e, ← List.getD_eq_getElem?_getD]
    exact h.2 j v hj
theorem flush_facts {D : Dk} (h1 : D.off = false) (h2 : -1 ≤ D.left) : D.goes = decide (D.left ≠ 0) ∧ D.flush.off = decide (D.left = 0) ∧ D.flush.left = (if 0 < D.left then D.left - 1 else D.left) ∧ D.flush.acts = D.acts + 1 ∧ (D.left = 0 → D.flush.safe = D.safe ∧ D.flush.wet = D.wet) ∧ (D.left ≠ 0 → D.flush.safe = Dk.keepL (fun _ => true) 0 D.wet D.safe ∧ D.flush.wet = []) := by
  have hg : D.goes = decide (D.left ≠ 0) := by rw [Dk.goes, h1]; rfl
  by_cases q : D.left = 0
  · have : D.flush = { D with acts := D.acts + 1, off := true } := by rw [Dk.flush, hg, if_neg (by simp [q]), Dk.act, if_neg (by simp [h1]), if_pos q]
    rw [this]
    exact ⟨hg, by simp [q], by simp [q], rfl, fun _ => ⟨rfl, rfl⟩, fun e => absurd q e⟩
  · have : D.flush = { D with acts := D.acts + 1, left := max (D.left - 1) (-1) }.keep (fun _ => true) := by rw [Dk.flush, hg, if_pos (by simp [q]), Dk.act, if_neg (by simp [h1]), if_neg q]
    rw [this]
    refine ⟨hg, by simp [Dk.keep, h1, q], ?_, rfl, fun e => absurd e q, fun _ => ⟨rfl, rfl⟩⟩
    show max (D.left - 1) (-1) = _
    split <;> omega
theorem write_facts {D : Dk} {i : Nat} {p : List UInt8} (h1 : D.off = false) (h2 : -1 ≤ D.left) : D.goes = decide (D.left ≠ 0) ∧ (D.write i p).off = decide (D.left = 0) ∧ (D.write i p).left = (if 0 < D.left then D.left - 1 else D.left) ∧ (D.write i p).acts = D.acts + 1 ∧ (D.write i p).safe = D.safe ∧ (D.write i p).wet = D.wet ++ [(i, B64.of p)] := by
  have hg : D.goes = decide (D.left ≠ 0) := by rw [Dk.goes, h1]; rfl
  have hw : D.write i p = { D.act with wet := D.wet ++ [(i, B64.of p)] } := by rw [Dk.write, if_neg (by simp [h1])]
  by_cases q : D.left = 0
  · have : D.act = { D with acts := D.acts + 1, off := true } := by rw [Dk.act, if_neg (by simp [h1]), if_pos q]
    rw [hw, this]
    exact ⟨hg, by simp [q], by simp [q], rfl, rfl, rfl⟩
  · have : D.act = { D with acts := D.acts + 1, left := max (D.left - 1) (-1) } := by rw [Dk.act, if_neg (by simp [h1]), if_neg q]
    rw [hw, this]
    refine ⟨hg, by simp [h1, q], ?_, rfl, rfl, rfl⟩
    show max (D.left - 1) (-1) = _
    split <;> omega
theorem off_facts {D : Dk} (h1 : D.off = true) : D.goes = false ∧ D.flush = D ∧ ∀ i p, D.write i p = D := by
  have hg : D.goes = false := by rw [Dk.goes, h1]; rfl
  exact ⟨hg, by rw [Dk.flush, hg, if_neg (by simp), Dk.act, if_pos h1], fun i p => by rw [Dk.write, if_pos h1]⟩
theorem op_storeI {P : Program} {n : Nat} {s w : World} {a : Act} {E : List (Nat × Value)} {L : List HItem} {Q : Exit → Act → World → Prop} {next : Act → World → Prop} {ty : TypeId} {pos : String} {aft : Array Edge} {g : Option (Nat × Bool)} (h : St n s a w E L) {t : TypeId} {x y : Operand} {j by_ : Nat} {v u : Value} {l : List Value}
    (hx : ev E x = some (elP v (j * 1))) (hy : ev E y = some u) (hs : tsz P t = some (1, by_)) (hu : u.oneCell' = true) (it : Nat) (hit : L[it]? = some (OwnL id v l)) (hj : j < l.length)
    (k : ∀ a w, St n s a w E (L.set it (OwnL id v (l.set j u))) → next a w) : (Oper.mk none (.store t x y) ty pos aft g).wp P a w next Q := by
  refine op_storeEl h hx hy hs hu it hit (by omega) (fun a w h => k a w ?_)
  have e : Own 1 v l.length ((l.map id).set (j * 1) u) = OwnL id v (l.set j u) := OwnL_eq (by simp) (by simp)
  rw [e] at h; exact h
theorem nils1 (N : Nat) : (List.range (N * 1)).map (fun j => (Value.slice none 0 0).cells[j % (Value.slice none 0 0).cells.size]!) = (List.replicate N (Value.slice none 0 0)).map id := by
  have e : ∀ j, (Value.slice none 0 0).cells[j % (Value.slice none 0 0).cells.size]! = Value.slice none 0 0 := fun j => by
    show (#[Value.slice none 0 0] : Array Value)[j % 1]! = _
    rw [Nat.mod_one]; rfl
  rw [List.map_congr_left (g := fun _ => Value.slice none 0 0) (fun j _ => e j), List.map_const', List.length_range, Nat.mul_one]
  simp
theorem bs_fm : ∀ l : List UInt8, l.flatMap (fun b => [bv b]) = bs l
  | [] => rfl
  | x :: l => by rw [List.flatMap_cons, bs_fm l]; rfl
theorem Sat.dropApp {s w : World} {G F : List HItem} (h : Sat s w (G ++ F)) : Sat s w F := by
  have := h.drop G.length
  rwa [List.drop_left] at this
end Go.Sl
namespace Go.Proofs.K
open Go.Sl Go.WideShapes Go.ChangeShapes
attribute [local irreducible] Go.Sl.Own Go.Sl.Blk Go.Sl.Sep Go.Sl.Ex Go.Sl.Fact
attribute [local irreducible] DiskI

section
variable {H : Type} {enc : TypeId × Value → H} {W : World} {base b0 : Nat} {r : Reach} {v : Value} {d : DataW H} {ps : List MemPlace}
theorem open_S_interleaflaw04_Act (hval : Value.okWide P W r b0 t_S_interleaflaw04_Act v) (hd : DataW.Trod enc P W base (fun _ => true) true t_S_interleaflaw04_Act v d ps) :
    ∃ l : List DA, Views [Base W] 3 v l.length (l.flatMap cellsDA) ∧ ∀ a ∈ l, ViewsB [Base W] (.slice a.sa a.sl a.sc) a.p ∧ -9223372036854775808 ≤ a.at_ ∧ a.at_ ≤ 9223372036854775807 := by
  have ho : Opn P enc W cellsDA (fun a => ViewsB [Base W] (.slice a.sa a.sl a.sc) a.p ∧ -9223372036854775808 ≤ a.at_ ∧ a.at_ ≤ 9223372036854775807) t_interleaflaw04_Act := by
    intro base fuel cs x h
    obtain ⟨⟨k, at_, pv, bl⟩, rfl, _, hat, hv, _⟩ := opn_struct3 (n0 := 1) (n1 := 1) (n2 := 1) u_interleaflaw04_Act (by kernel_rfl) ⟨rfl, by kernel_rfl⟩ ⟨rfl, by kernel_rfl⟩ ⟨rfl, by kernel_rfl⟩
      (opn_u8 u_uint8) (opn_i64 u_int) (opn_slice (size := 1) u_S_uint8 (by kernel_rfl) (by decide) (fun _ => rfl) (opn_u8 u_uint8)) _ _ _ _ h
    dsimp only at hv hat
    obtain ⟨A, cap, hpv, _⟩ := hv.shape (Sat.base W)
    subst hpv
    have hb : ViewsB [Base W] (.slice A bl.length cap) bl := by
      have e : bl.flatMap (fun b => [bv b]) = bs bl := bs_fm bl
      unfold ViewsB
      rw [← e]; exact hv
    exact ⟨⟨k, at_, A, bl.length, cap, bl⟩, rfl, hb, hat.1, hat.2⟩
  obtain ⟨a, len, cap, rfl⟩ := okWide_slice u_S_interleaflaw04_Act hval
  obtain ⟨⟨v', l⟩, hv, hl, hp⟩ := opn_arg (opn_slice (size := 3) u_S_interleaflaw04_Act (by kernel_rfl) (by decide) (fun _ => rfl) ho) hd
  have h2 : [Value.slice a len cap] = [v'] := hv
  cases h2
  exact ⟨l, hl, hp⟩
end

theorem diskPlays (s w : World) (n : UInt8) (av : Value) (acts : List DA) (F : List HItem) (hav : Views F 3 av acts.length (acts.flatMap cellsDA)) (hap : ∀ a ∈ acts, ViewsB F (.slice a.sa a.sl a.sc) a.p ∧ -9223372036854775808 ≤ a.at_ ∧ a.at_ ≤ 9223372036854775807) (hs : Sat s w F) :
    Calls P n_law04_DiskPlays #[bv n, av] w (Ret s (fun _ : Unit => .bool true) (fun _ => F) (fun _ => True)) := by
  have hlen := Views.len_le hav hs
  have hn6 : (n % 6).toNat < 6 := by rw [UInt8.toNat_mod]; exact Nat.mod_lt _ (by decide)
  obtain ⟨k, hk⟩ : ∃ k, k = (n % 6).toNat := ⟨_, rfl⟩
  rw [← hk] at hn6
  refine enter K.fn_law04_DiskPlays rfl K.nt_law04_DiskPlays rfl hs ?_
  clear hs w; intro a w h
  refine c_seq (c_region ?_)
  refine wv h (r_assign h rfl) rfl ?_
  clear h a w; intro a w h
  refine wnil (c_then ?_)
  refine c_seq ?_
  refine c_seq (c_region ?_)
  refine wl rfl (op_call h rfl K.go_law04_awake (law04_awake s _ _ h.2) rfl ?_)
  clear h a w; intro x a w hx h
  (try simp only [List.set_cons_zero, List.set_cons_succ] at h)
  refine wv h (r_not h rfl) rfl ?_
  clear h a w; intro a w h
  refine wv h (r_move h rfl) rfl ?_
  clear h a w; intro a w h
  refine wvG h (by first | exact .t rfl | exact .f rfl | exact .gt rfl | exact .gf rfl) (fun hg => by (try simp only [↓gval_on hg, ↓gval_and hg] at h); (have hg2 := hg; (try simp only [Bool.and_eq_true, Bool.or_eq_true, Bool.not_eq_true', decide_eq_true_eq, decide_eq_false_iff_not] at hg2)); first | exact r_move h rfl) rfl ?_
  clear h a w; intro a w h
  refine wvG h (by first | exact .t rfl | exact .f rfl | exact .gt rfl | exact .gf rfl) (fun hg => by (try simp only [↓gval_on hg, ↓gval_and hg] at h); (have hg2 := hg; (try simp only [Bool.and_eq_true, Bool.or_eq_true, Bool.not_eq_true', decide_eq_true_eq, decide_eq_false_iff_not] at hg2)); first | exact r_lenV h rfl K.u_S_interleaflaw04_Act (by first | exact Views.own 0 rfl | exact Views.own 1 rfl | exact Views.own 2 rfl | exact Views.own 3 rfl | exact Views.own 4 rfl | exact Views.own 5 rfl | assumption | exact Views.of_drop 1 (by assumption) | exact Views.of_drop 2 (by assumption) | exact Views.of_drop 3 (by assumption) | exact Views.of_drop 4 (by assumption) | exact Views.of_drop 5 (by assumption) | exact Views.of_drop 6 (by assumption) | exact Views.of_drop 7 (by assumption) | exact Views.of_drop 8 (by assumption) | exact Views.of_drop 9 (by assumption) | exact Views.of_drop 10 (by assumption) | exact Views.of_drop 11 (by assumption) | exact Views.of_drop 12 (by assumption))) rfl ?_
  clear h a w; intro a w h
  refine wvG h (by first | exact .t rfl | exact .f rfl | exact .gt rfl | exact .gf rfl) (fun hg => by (try simp only [↓gval_on hg, ↓gval_and hg] at h); (have hg2 := hg; (try simp only [Bool.and_eq_true, Bool.or_eq_true, Bool.not_eq_true', decide_eq_true_eq, decide_eq_false_iff_not] at hg2)); first | exact r_bin h rfl rfl (B.gtr_int)) rfl ?_
  clear h a w; intro a w h
  first
    | (refine wv h (r_pickA h rfl rfl rfl) rfl ?_)
    | (refine wv h (r_pickO h rfl rfl rfl) rfl ?_)
    | (refine wv h (r_pick_true h rfl rfl) rfl ?_)
    | (refine wv h (r_pick_false h rfl rfl) rfl ?_)
    | (refine wv h (r_pick h rfl rfl rfl) rfl ?_)
  clear h a w; intro a w h
  refine wnil (c_then ?_)
  first
   | refine c_condD h rfl (fun ht1 => ?_) (fun ht1 => ?_)
   | refine c_condP h rfl (by first | (simp only [Bool.and_eq_true, Bool.or_eq_true, Bool.not_eq_true', decide_eq_true_eq, decide_eq_false_iff_not, ne_eq, Bool.not_eq_eq_eq_not, Bool.not_true, beq_iff_eq, bne_iff_ne]; exact Iff.rfl) | exact Iff.rfl) (fun ht1 => ?_) (fun ht1 => ?_)
  ·
   as_aux_lemma =>
    refine c_seq (c_region ?_)
    refine wl rfl (op_call h rfl K.go_law04_awake (law04_awake s _ _ h.2) rfl ?_)
    clear h a w; intro x a w hx h
    (try simp only [List.set_cons_zero, List.set_cons_succ] at h)
    refine wv h (r_assign h rfl) rfl ?_
    clear h a w; intro a w h
    refine wnil (c_then ?_)
    refine c_ret ?_
    exact ret1 h rfl rfl ⟨(), rfl, (by first | exact h.2 | exact h.2.drop 1 | exact h.2.drop 2 | exact h.2.drop 3 | exact h.2.drop 4 | exact h.2.drop 5 | exact h.2.drop 6 | exact h.2.drop 7 | exact h.2.drop 8 | exact h.2.drop 9 | exact h.2.drop 10 | exact h.2.drop 11 | exact h.2.drop 12 | exact h.2.drop 13 | exact h.2.drop 14 | exact h.2.drop 15 | exact h.2.drop 16), trivial⟩
  ·
   refine c_skip ?_
   refine c_then ?_
   refine c_seq (c_region ?_)
   refine wv h (r_move h rfl) rfl ?_
   clear h a w; intro a w h
   refine wv h (r_bin h rfl rfl (B.rem_u8 (y := 6) (by decide))) rfl ?_
   clear h a w; intro a w h
   refine wv h (r_conv h rfl K.u_uint8 K.u_int (C.i64_u8) ) rfl ?_
   clear h a w; intro a w h
   rw [← hk] at h
   refine wv h (r_assign h rfl) rfl ?_
   clear h a w; intro a w h
   refine wnil (c_then ?_)
   refine c_seq (c_region ?_)
   refine wv h (r_move h rfl) rfl ?_
   clear h a w; intro a w h
   refine wl rfl (op_call h rfl K.go_disk_New (disk_New s _ _ _ h.2) rfl ?_)
   clear h a w; intro b a w hx h
   (try simp only [List.set_cons_zero, List.set_cons_succ] at h)
   rw [show (min (max (k : Int) 0) 4096).toNat = k by omega] at h
   refine wv h (r_assign h rfl) rfl ?_
   clear h a w; intro a w h
   refine wnil (c_then ?_)
   refine c_seq (c_region ?_)
   refine wv h (r_move h rfl) rfl ?_
   clear h a w; intro a w h
   refine wl rfl (op_makeSlice h K.u_S_S_uint8 K.sz_S_uint8 K.z_S_uint8 rfl rfl k k (by omega) (by omega) (Nat.le_refl _) (by omega) rfl rfl rfl ?_)
   clear h a w; intro v39 a w h
   rw [nils1 k, show Own 1 v39 k ((List.replicate k (Value.slice none 0 0)).map id) = OwnL id v39 (List.replicate k (.slice none 0 0)) from OwnL_eq rfl (by simp)] at h
   refine wv h (r_assign h rfl) rfl ?_
   clear h a w; intro a w h
   refine wnil (c_then ?_)
   refine c_seq ?_
   refine c_seq (c_region ?_)
   refine wv h (r_assign h rfl) rfl ?_
   clear h a w; intro a w h
   refine wnil (c_then ?_)
   refine c_block ?_
   refine c_loopX h (X := Nat × List Value × List HItem) (fun x => [(1, av), (5, .int .i64 (k : Int)), (6, dp b), (7, v39), (8, .int .i64 (x.1 : Int))])
     (fun x => OwnL id v39 x.2.1 :: DiskI b (Dk.new k) :: (x.2.2 ++ F)) (fun x => x.1 ≤ k ∧ x.2.1.length = k ∧ ∀ j u, j < x.1 → x.2.1[j]? = some u → ViewsB (x.2.2 ++ F) u B64.zero.val) (fun x => k - x.1) (0, List.replicate k (.slice none 0 0), []) (h.keep [1, 5, 6, 7, 8])
     ⟨Nat.zero_le _, by simp, fun j u hj => absurd hj (Nat.not_lt_zero j)⟩ ?_
   clear h a w; intro x a w hx h
   obtain ⟨i, S, G⟩ := x
   obtain ⟨hx1, hx2, hx3⟩ := hx
   dsimp only at hx1 hx2 hx3 h
   as_aux_lemma =>
    refine c_seq ?_
    refine c_seq (c_region ?_)
    refine wv h (r_move h rfl) rfl ?_
    clear h a w; intro a w h
    refine wv h (r_move h rfl) rfl ?_
    clear h a w; intro a w h
    refine wv h (r_bin h rfl rfl (B.lss_int)) rfl ?_
    clear h a w; intro a w h
    refine wnil (c_then ?_)
    first
     | refine c_condD h rfl (fun ht2 => ?_) (fun ht2 => ?_)
     | refine c_condP h rfl (by first | (simp only [Bool.and_eq_true, Bool.or_eq_true, Bool.not_eq_true', decide_eq_true_eq, decide_eq_false_iff_not, ne_eq, Bool.not_eq_eq_eq_not, Bool.not_true, beq_iff_eq, bne_iff_ne]; exact Iff.rfl) | exact Iff.rfl) (fun ht2 => ?_) (fun ht2 => ?_)
    ·
     refine c_skip ?_
     refine c_then ?_
     refine c_seq ?_
     refine c_block ?_
     refine c_region ?_
     refine wv h (r_move h rfl) rfl ?_
     clear h a w; intro a w h
     refine wv h (r_move h rfl) rfl ?_
     clear h a w; intro a w h
     refine wl rfl (op_mkB h K.u_S_uint8 K.sz_uint8 K.z_uint8 rfl rfl (by omega) (by omega) (by first | omega | (simp only [List.length_cons, List.length_nil]; omega) | (simp; done) | (simp; omega)) (by first | omega | (simp only [List.length_cons, List.length_nil]; omega) | (simp; done) | (simp; omega)) rfl rfl ?_)
     clear h a w; intro v47 a w h
     refine wv h (r_elP h rfl rfl K.u_S_S_uint8 K.sz_S_uint8 (by first | exact Views.own 0 rfl | exact Views.own 1 rfl | exact Views.own 2 rfl | exact Views.own 3 rfl | exact Views.own 4 rfl | exact Views.own 5 rfl | assumption | exact Views.of_drop 1 (by assumption) | exact Views.of_drop 2 (by assumption) | exact Views.of_drop 3 (by assumption) | exact Views.of_drop 4 (by assumption) | exact Views.of_drop 5 (by assumption) | exact Views.of_drop 6 (by assumption) | exact Views.of_drop 7 (by assumption) | exact Views.of_drop 8 (by assumption) | exact Views.of_drop 9 (by assumption) | exact Views.of_drop 10 (by assumption) | exact Views.of_drop 11 (by assumption) | exact Views.of_drop 12 (by assumption)) (by first | omega | (simp; done)) (by first | omega | (simp only [List.length_cons, List.length_nil]; omega) | (simp; done) | (simp; omega))) rfl ?_
     clear h a w; intro a w h
     refine wl rfl (op_storeI h rfl rfl K.sz_S_uint8 (Views.oneCell (ViewsB.own 0 rfl) h.2) 1 rfl (by omega) ?_)
     clear h a w; intro a w h
     refine wnil ?_
     refine b_normal ?_
     refine c_then ?_
     refine c_region ?_
     refine wv h (r_move h rfl) rfl ?_
     clear h a w; intro a w h
     refine wv h (r_bin h rfl rfl (B.add_i64 (by omega) (by omega))) rfl ?_
     clear h a w; intro a w h
     refine wv h (r_assign h rfl) rfl ?_
     clear h a w; intro a w h
     refine wnil ?_
     exact ⟨(i + 1, S.set i v47, OwnB v47 (List.replicate 64 0) :: G), h.mem (fun z => z.back 2 (by simp)) |>.keep [1, 5, 6, 7, 8], ⟨by show i + 1 ≤ k; omega, by show (S.set i v47).length = k; simpa using hx2, fun j u hj hu => by
       by_cases e : i = j
       · subst e
         have hu2 : (S.set i v47)[i]? = some u := hu
         rw [List.getElem?_set_self (by omega)] at hu2
         cases hu2
         exact ViewsB.own 0 rfl
       · have hu2 : (S.set i v47)[j]? = some u := hu
         rw [List.getElem?_set_ne e] at hu2
         exact (hx3 j u (by have : j < i + 1 := hj; omega) hu2).cons _⟩, by show k - (i + 1) < k - i; omega⟩
    ·
     obtain rfl : i = k := by omega
     refine c_exit ?_
     refine e_then ?_
     refine e_then ?_
     refine e_here ?_
     refine c_then ?_
     refine c_seq (c_region ?_)
     refine wv h (r_assign h rfl) rfl ?_
     clear h a w; intro a w h
     refine wnil (c_then ?_)
     refine c_seq (c_region ?_)
     refine wv h (r_assign h rfl) rfl ?_
     clear h a w; intro a w h
     refine wnil (c_then ?_)
     refine c_seq (c_region ?_)
     refine wv h (r_assign h rfl) rfl ?_
     clear h a w; intro a w h
     refine wnil (c_then ?_)
     refine c_seq (c_region ?_)
     refine wv h (r_assign h rfl) rfl ?_
     clear h a w; intro a w h
     refine wnil (c_then ?_)
     refine c_seq (c_region ?_)
     refine wv h (r_assign h rfl) rfl ?_
     clear h a w; intro a w h
     refine wnil (c_then ?_)
     refine c_seq ?_
     refine c_seq (c_region ?_)
     refine wv h (r_assign h rfl) rfl ?_
     clear h a w; intro a w h
     replace h := (h.addNilL (enc := id)).addNilL (enc := Value.int .i64)
     replace h := (h.front 2 rfl).front 3 rfl
     refine wnil (c_then ?_)
     refine c_block ?_
     refine c_loopX h (X := Nat × PS) (fun x => [(1, av), (5, .int .i64 (i : Int)), (6, dp b), (7, x.2.vs), (9, x.2.va), (10, x.2.vw), (11, .int .i64 x.2.D.left), (12, .bool x.2.D.off), (13, .int .i64 x.2.D.acts), (14, .int .i64 (x.1 : Int))])
       (fun x => DiskI b x.2.D :: OwnL id x.2.vs x.2.S :: OwnL (Value.int .i64) x.2.va (wetI x.2.D) :: OwnL id x.2.vw x.2.W :: (x.2.G ++ F)) (fun x => x.1 ≤ acts.length ∧ PSok F i x.1 x.2) (fun x => acts.length - x.1) (0, ⟨Dk.new i, v39, S, .slice none 0 0, .slice none 0 0, [], G⟩) (h.keep [1, 5, 6, 7, 9, 10, 11, 12, 13, 14])
       ⟨Nat.zero_le _, Dk.new_ok (by omega), Int.le_refl _, by simp [Dk.new], ⟨by simp [Dk.new]; omega, fun j u hu => by
         have hji : j < i := by have := (List.getElem?_eq_some_iff.1 hu).1; dsimp only at this; omega
         have := hx3 j u hji hu
         rwa [show (Dk.new i).safe.getD j B64.zero = B64.zero by simp [Dk.new, List.getD_eq_getElem?_getD, hji]]⟩, rfl, fun j u q hu => by simp at hu⟩ ?_
     clear h a w; intro x a w hx h
     obtain ⟨m, ⟨D, vs, T, va, vw, U, G⟩⟩ := x
     obtain ⟨hx1, hok, hac, hsl, hsv, hwl, hwv⟩ := hx
     dsimp only at hx1 hok hac hsl hsv hwl hwv h
     have havG := Views.prep hav G
     as_aux_lemma =>
      refine c_seq ?_
      refine c_seq (c_region ?_)
      refine wv h (r_move h rfl) rfl ?_
      clear h a w; intro a w h
      refine wv h (r_move h rfl) rfl ?_
      clear h a w; intro a w h
      refine wv h (r_lenV h rfl K.u_S_interleaflaw04_Act (by first | exact Views.own 0 rfl | exact Views.own 1 rfl | exact Views.own 2 rfl | exact Views.own 3 rfl | exact Views.own 4 rfl | exact Views.own 5 rfl | assumption | exact Views.of_drop 1 (by assumption) | exact Views.of_drop 2 (by assumption) | exact Views.of_drop 3 (by assumption) | exact Views.of_drop 4 (by assumption) | exact Views.of_drop 5 (by assumption) | exact Views.of_drop 6 (by assumption) | exact Views.of_drop 7 (by assumption) | exact Views.of_drop 8 (by assumption) | exact Views.of_drop 9 (by assumption) | exact Views.of_drop 10 (by assumption) | exact Views.of_drop 11 (by assumption) | exact Views.of_drop 12 (by assumption))) rfl ?_
      clear h a w; intro a w h
      refine wv h (r_bin h rfl rfl (B.lss_int)) rfl ?_
      clear h a w; intro a w h
      refine wnil (c_then ?_)
      first
       | refine c_condD h rfl (fun ht3 => ?_) (fun ht3 => ?_)
       | refine c_condP h rfl (by first | (simp only [Bool.and_eq_true, Bool.or_eq_true, Bool.not_eq_true', decide_eq_true_eq, decide_eq_false_iff_not, ne_eq, Bool.not_eq_eq_eq_not, Bool.not_true, beq_iff_eq, bne_iff_ne]; exact Iff.rfl) | exact Iff.rfl) (fun ht3 => ?_) (fun ht3 => ?_)
      ·
       obtain ⟨A, hA⟩ : ∃ A, acts[m]? = some A := ⟨acts[m], by simp⟩
       obtain ⟨hAv, hA1, hA2⟩ := hap A (List.mem_of_getElem? hA)
       have hAvG := ViewsB.prep hAv G
       obtain ⟨k8, hk8⟩ : ∃ q, q = A.k % 8 := ⟨_, rfl⟩
       have hPS : PSok F i (m + 1) ⟨D, vs, T, va, vw, U, G⟩ := ⟨hok, by dsimp only; omega, hsl, hsv, hwl, hwv⟩
       have ⟨hd1, hd2, hd3, hd4, hd5, hd6⟩ := hok
       have hac9 : D.acts < 1000000000 := by omega
       have hwil := wetI_len D
       refine c_skip ?_
       refine c_then ?_
       refine c_seq ?_
       refine c_block ?_
       refine c_seq (c_region ?_)
       refine wv h (r_move h rfl) rfl ?_
       clear h a w; intro a w h
       refine wv h (r_move h rfl) rfl ?_
       clear h a w; intro a w h
       refine wv h (r_elP h rfl rfl K.u_S_interleaflaw04_Act K.sz_interleaflaw04_Act (by first | exact Views.own 0 rfl | exact Views.own 1 rfl | exact Views.own 2 rfl | exact Views.own 3 rfl | exact Views.own 4 rfl | exact Views.own 5 rfl | assumption | exact Views.of_drop 1 (by assumption) | exact Views.of_drop 2 (by assumption) | exact Views.of_drop 3 (by assumption) | exact Views.of_drop 4 (by assumption) | exact Views.of_drop 5 (by assumption) | exact Views.of_drop 6 (by assumption) | exact Views.of_drop 7 (by assumption) | exact Views.of_drop 8 (by assumption) | exact Views.of_drop 9 (by assumption) | exact Views.of_drop 10 (by assumption) | exact Views.of_drop 11 (by assumption) | exact Views.of_drop 12 (by assumption)) (by first | omega | (simp; done)) (by first | omega | (simp only [List.length_cons, List.length_nil]; omega) | (simp; done) | (simp; omega))) rfl ?_
       clear h a w; intro a w h
       first
              | (refine wv h (r_elM h rfl K.u_interleaflaw04_Act rfl K.sz_interleaflaw04_Act rfl (by first | exact Views.own 0 rfl | exact Views.own 1 rfl | exact Views.own 2 rfl | exact Views.own 3 rfl | exact Views.own 4 rfl | exact Views.own 5 rfl | assumption | exact Views.of_drop 1 (by assumption) | exact Views.of_drop 2 (by assumption) | exact Views.of_drop 3 (by assumption) | exact Views.of_drop 4 (by assumption) | exact Views.of_drop 5 (by assumption) | exact Views.of_drop 6 (by assumption) | exact Views.of_drop 7 (by assumption) | exact Views.of_drop 8 (by assumption) | exact Views.of_drop 9 (by assumption) | exact Views.of_drop 10 (by assumption) | exact Views.of_drop 11 (by assumption) | exact Views.of_drop 12 (by assumption)) (by assumption)) rfl ?_)
              | (refine wv h (r_elMd h rfl K.u_interleaflaw04_Act rfl K.sz_interleaflaw04_Act rfl (by first | exact Views.own 0 rfl | exact Views.own 1 rfl | exact Views.own 2 rfl | exact Views.own 3 rfl | exact Views.own 4 rfl | exact Views.own 5 rfl | assumption | exact Views.of_drop 1 (by assumption) | exact Views.of_drop 2 (by assumption) | exact Views.of_drop 3 (by assumption) | exact Views.of_drop 4 (by assumption) | exact Views.of_drop 5 (by assumption) | exact Views.of_drop 6 (by assumption) | exact Views.of_drop 7 (by assumption) | exact Views.of_drop 8 (by assumption) | exact Views.of_drop 9 (by assumption) | exact Views.of_drop 10 (by assumption) | exact Views.of_drop 11 (by assumption) | exact Views.of_drop 12 (by assumption)) (by first | omega | (simp only [List.length_cons, List.length_nil]; omega) | (simp; done) | (simp; omega))) rfl ?_)
       clear h a w; intro a w h
       refine wl rfl (op_alloc h K.z_interleaflaw04_Act rfl ?_)
       clear h a w; intro b15 a w h
       first
              | (refine wl rfl (op_stA h rfl rfl K.sz_interleaflaw04_Act (by first | exact Row.len _ | rfl | assumption | (simp; done) | (simp; omega) | omega) (by first | exact Row.one _ | exact bs_one _ | assumption | (simp; done) | (simp; (repeat' apply And.intro) <;> first | rfl | assumption)) 0 rfl (by first | rfl | assumption | (simp; done) | (simp; omega) | omega) ?_))
              | (refine wl rfl (op_stA h rfl rfl K.sz_interleaflaw04_Act (by first | exact Row.len _ | rfl | assumption | (simp; done) | (simp; omega) | omega) (by first | exact Row.one _ | exact bs_one _ | assumption | (simp; done) | (simp; (repeat' apply And.intro) <;> first | rfl | assumption)) 1 rfl (by first | rfl | assumption | (simp; done) | (simp; omega) | omega) ?_))
              | (refine wl rfl (op_stA h rfl rfl K.sz_interleaflaw04_Act (by first | exact Row.len _ | rfl | assumption | (simp; done) | (simp; omega) | omega) (by first | exact Row.one _ | exact bs_one _ | assumption | (simp; done) | (simp; (repeat' apply And.intro) <;> first | rfl | assumption)) 2 rfl (by first | rfl | assumption | (simp; done) | (simp; omega) | omega) ?_))
              | (refine wl rfl (op_stA h rfl rfl K.sz_interleaflaw04_Act (by first | exact Row.len _ | rfl | assumption | (simp; done) | (simp; omega) | omega) (by first | exact Row.one _ | exact bs_one _ | assumption | (simp; done) | (simp; (repeat' apply And.intro) <;> first | rfl | assumption)) 3 rfl (by first | rfl | assumption | (simp; done) | (simp; omega) | omega) ?_))
              | (refine wl rfl (op_stA h rfl rfl K.sz_interleaflaw04_Act (by first | exact Row.len _ | rfl | assumption | (simp; done) | (simp; omega) | omega) (by first | exact Row.one _ | exact bs_one _ | assumption | (simp; done) | (simp; (repeat' apply And.intro) <;> first | rfl | assumption)) 4 rfl (by first | rfl | assumption | (simp; done) | (simp; omega) | omega) ?_))
              | (refine wl rfl (op_stA h rfl rfl K.sz_interleaflaw04_Act (by first | exact Row.len _ | rfl | assumption | (simp; done) | (simp; omega) | omega) (by first | exact Row.one _ | exact bs_one _ | assumption | (simp; done) | (simp; (repeat' apply And.intro) <;> first | rfl | assumption)) 5 rfl (by first | rfl | assumption | (simp; done) | (simp; omega) | omega) ?_))
       clear h a w; intro a w h
       (try simp only [List.set_cons_zero, List.set_cons_succ] at h)
       refine wnil (c_then ?_)
       refine c_seq ?_
       refine c_seq (c_region ?_)
       refine wv h (r_fieldAddr h 2 rfl K.u_interleaflaw04_Act rfl K.sz_S_uint8 rfl rfl) rfl ?_
       clear h a w; intro a w h
       first
              | (refine wv h (r_ldN h rfl K.u_S_uint8 rfl 0 rfl rfl) rfl ?_)
              | (refine wv h (r_ldN h rfl K.u_S_uint8 rfl 1 rfl rfl) rfl ?_)
              | (refine wv h (r_ldN h rfl K.u_S_uint8 rfl 2 rfl rfl) rfl ?_)
              | (refine wv h (r_ldN h rfl K.u_S_uint8 rfl 3 rfl rfl) rfl ?_)
              | (refine wv h (r_ldN h rfl K.u_S_uint8 rfl 4 rfl rfl) rfl ?_)
              | (refine wv h (r_ldN h rfl K.u_S_uint8 rfl 5 rfl rfl) rfl ?_)
              | (refine wv h (r_ldN h rfl K.u_S_uint8 rfl 6 rfl rfl) rfl ?_)
              | (refine wv h (r_ldC (o := 2) h rfl K.u_S_uint8 rfl 0 rfl) rfl ?_)
              | (refine wv h (r_ldC (o := 2) h rfl K.u_S_uint8 rfl 1 rfl) rfl ?_)
              | (refine wv h (r_ldC (o := 2) h rfl K.u_S_uint8 rfl 2 rfl) rfl ?_)
              | (refine wv h (r_ldC (o := 2) h rfl K.u_S_uint8 rfl 3 rfl) rfl ?_)
              | (refine wv h (r_ldC (o := 2) h rfl K.u_S_uint8 rfl 4 rfl) rfl ?_)
              | (refine wv h (r_ldC (o := 2) h rfl K.u_S_uint8 rfl 5 rfl) rfl ?_)
              | (refine wv h (r_ldC (o := 2) h rfl K.u_S_uint8 rfl 6 rfl) rfl ?_)
              | (refine wv h (r_load h rfl K.u_S_uint8 rfl 0 rfl rfl) rfl ?_)
              | (refine wv h (r_load h rfl K.u_S_uint8 rfl 1 rfl rfl) rfl ?_)
              | (refine wv h (r_load h rfl K.u_S_uint8 rfl 2 rfl rfl) rfl ?_)
              | (refine wv h (r_load h rfl K.u_S_uint8 rfl 3 rfl rfl) rfl ?_)
              | (refine wv h (r_load h rfl K.u_S_uint8 rfl 4 rfl rfl) rfl ?_)
              | (refine wv h (r_load h rfl K.u_S_uint8 rfl 5 rfl rfl) rfl ?_)
              | (refine wv h (r_load1 h rfl K.u_S_uint8 rfl (by assumption)) rfl ?_)
       clear h a w; intro a w h
       refine wv h (r_lenB h rfl K.u_S_uint8 (by first | exact ViewsB.own 0 rfl | exact ViewsB.own 1 rfl | exact ViewsB.own 2 rfl | exact ViewsB.own 3 rfl | exact ViewsB.own 4 rfl | exact ViewsB.own 5 rfl | assumption | exact ViewsB.nil _ | exact ViewsB.arr 0 rfl (by first | assumption | rfl | (simp; done)) (Nat.le_refl _) (by simp [maxLen]) | exact ViewsB.arr 1 rfl (by first | assumption | rfl | (simp; done)) (Nat.le_refl _) (by simp [maxLen]) | exact ViewsB.arr 2 rfl (by first | assumption | rfl | (simp; done)) (Nat.le_refl _) (by simp [maxLen]) | exact ViewsB.arr 3 rfl (by first | assumption | rfl | (simp; done)) (Nat.le_refl _) (by simp [maxLen]) | exact ViewsB.arr 4 rfl (by first | assumption | rfl | (simp; done)) (Nat.le_refl _) (by simp [maxLen]) | exact ViewsB.of_drop 1 (by assumption) | exact ViewsB.of_drop 2 (by assumption) | exact ViewsB.of_drop 3 (by assumption) | exact ViewsB.of_drop 4 (by assumption) | exact ViewsB.of_drop 5 (by assumption) | exact ViewsB.of_drop 6 (by assumption) | exact ViewsB.of_drop 7 (by assumption) | exact ViewsB.of_drop 8 (by assumption) | exact ViewsB.of_drop 9 (by assumption) | exact ViewsB.of_drop 10 (by assumption) | exact ViewsB.of_drop 11 (by assumption) | exact ViewsB.of_drop 12 (by assumption) | exact ViewsB.sub (by first | exact ViewsB.own 0 rfl | exact ViewsB.own 1 rfl | exact ViewsB.own 2 rfl | exact ViewsB.own 3 rfl | exact ViewsB.own 4 rfl | exact ViewsB.own 5 rfl | assumption | exact ViewsB.nil _ | exact ViewsB.arr 0 rfl (by first | assumption | rfl | (simp; done)) (Nat.le_refl _) (by simp [maxLen]) | exact ViewsB.arr 1 rfl (by first | assumption | rfl | (simp; done)) (Nat.le_refl _) (by simp [maxLen]) | exact ViewsB.arr 2 rfl (by first | assumption | rfl | (simp; done)) (Nat.le_refl _) (by simp [maxLen]) | exact ViewsB.arr 3 rfl (by first | assumption | rfl | (simp; done)) (Nat.le_refl _) (by simp [maxLen]) | exact ViewsB.arr 4 rfl (by first | assumption | rfl | (simp; done)) (Nat.le_refl _) (by simp [maxLen]) | exact ViewsB.of_drop 1 (by assumption) | exact ViewsB.of_drop 2 (by assumption) | exact ViewsB.of_drop 3 (by assumption) | exact ViewsB.of_drop 4 (by assumption) | exact ViewsB.of_drop 5 (by assumption) | exact ViewsB.of_drop 6 (by assumption) | exact ViewsB.of_drop 7 (by assumption) | exact ViewsB.of_drop 8 (by assumption) | exact ViewsB.of_drop 9 (by assumption) | exact ViewsB.of_drop 10 (by assumption) | exact ViewsB.of_drop 11 (by assumption) | exact ViewsB.of_drop 12 (by assumption)) (by omega) (by first | omega | (simp; done) | (simp; omega)))) rfl ?_
       clear h a w; intro a w h
       refine wv h (r_bin h rfl rfl (B.gtr_int)) rfl ?_
       clear h a w; intro a w h
       refine wnil (c_then ?_)
       first
        | refine c_condD h rfl (fun ht4 => ?_) (fun ht4 => ?_)
        | refine c_condP h rfl (by first | (simp only [Bool.and_eq_true, Bool.or_eq_true, Bool.not_eq_true', decide_eq_true_eq, decide_eq_false_iff_not, ne_eq, Bool.not_eq_eq_eq_not, Bool.not_true, beq_iff_eq, bne_iff_ne]; exact Iff.rfl) | exact Iff.rfl) (fun ht4 => ?_) (fun ht4 => ?_)
       ·
        as_aux_lemma =>
         refine c_seq (c_region ?_)
         refine wv h (r_assign h rfl) rfl ?_
         clear h a w; intro a w h
         refine wnil (c_then ?_)
         refine c_ret ?_
         exact ret1 h rfl rfl ⟨(), rfl, Sat.dropApp (h.2.drop 5), trivial⟩
       ·
        refine c_skip ?_
        refine c_then ?_
        refine c_meet h (X := PS) (fun x => [(1, av), (5, .int .i64 (i : Int)), (6, dp b), (7, x.vs), (9, x.va), (10, x.vw), (11, .int .i64 x.D.left), (12, .bool x.D.off), (13, .int .i64 x.D.acts), (14, .int .i64 (m : Int))])
          (fun x => DiskI b x.D :: OwnL id x.vs x.S :: OwnL (Value.int .i64) x.va (wetI x.D) :: OwnL id x.vw x.W :: (x.G ++ F)) (fun x => PSok F i (m + 1) x) ?_ ?_
        ·
         refine c_seq (c_region ?_)
         refine wv h (r_fieldAddr0 h rfl K.u_interleaflaw04_Act rfl K.sz_uint8 rfl rfl) rfl ?_
         clear h a w; intro a w h
         first
                  | (refine wv h (r_ldN h rfl K.u_uint8 rfl 0 rfl rfl) rfl ?_)
                  | (refine wv h (r_ldN h rfl K.u_uint8 rfl 1 rfl rfl) rfl ?_)
                  | (refine wv h (r_ldN h rfl K.u_uint8 rfl 2 rfl rfl) rfl ?_)
                  | (refine wv h (r_ldN h rfl K.u_uint8 rfl 3 rfl rfl) rfl ?_)
                  | (refine wv h (r_ldN h rfl K.u_uint8 rfl 4 rfl rfl) rfl ?_)
                  | (refine wv h (r_ldN h rfl K.u_uint8 rfl 5 rfl rfl) rfl ?_)
                  | (refine wv h (r_ldN h rfl K.u_uint8 rfl 6 rfl rfl) rfl ?_)
                  | (refine wv h (r_ldC (o := 0) h rfl K.u_uint8 rfl 0 rfl) rfl ?_)
                  | (refine wv h (r_ldC (o := 0) h rfl K.u_uint8 rfl 1 rfl) rfl ?_)
                  | (refine wv h (r_ldC (o := 0) h rfl K.u_uint8 rfl 2 rfl) rfl ?_)
                  | (refine wv h (r_ldC (o := 0) h rfl K.u_uint8 rfl 3 rfl) rfl ?_)
                  | (refine wv h (r_ldC (o := 0) h rfl K.u_uint8 rfl 4 rfl) rfl ?_)
                  | (refine wv h (r_ldC (o := 0) h rfl K.u_uint8 rfl 5 rfl) rfl ?_)
                  | (refine wv h (r_ldC (o := 0) h rfl K.u_uint8 rfl 6 rfl) rfl ?_)
                  | (refine wv h (r_load h rfl K.u_uint8 rfl 0 rfl rfl) rfl ?_)
                  | (refine wv h (r_load h rfl K.u_uint8 rfl 1 rfl rfl) rfl ?_)
                  | (refine wv h (r_load h rfl K.u_uint8 rfl 2 rfl rfl) rfl ?_)
                  | (refine wv h (r_load h rfl K.u_uint8 rfl 3 rfl rfl) rfl ?_)
                  | (refine wv h (r_load h rfl K.u_uint8 rfl 4 rfl rfl) rfl ?_)
                  | (refine wv h (r_load h rfl K.u_uint8 rfl 5 rfl rfl) rfl ?_)
                  | (refine wv h (r_load1 h rfl K.u_uint8 rfl (by assumption)) rfl ?_)
         clear h a w; intro a w h
         refine wv h (r_bin h rfl rfl (B.rem_u8 (y := 8) (by decide))) rfl ?_
         clear h a w; intro a w h
         rw [← hk8] at h
         refine wnil (c_then ?_)
         refine c_block ?_
         refine c_seq (c_region ?_)
         refine wv h (r_bin h rfl rfl (B.eql_u8 (y := 5))) rfl ?_
         clear h a w; intro a w h
         refine wv h (r_assign h rfl) rfl ?_
         clear h a w; intro a w h
         refine wnil (c_then ?_)
         first
          | refine c_condD h rfl (fun ht5 => ?_) (fun ht5 => ?_)
          | refine c_condP h rfl (by first | (simp only [Bool.and_eq_true, Bool.or_eq_true, Bool.not_eq_true', decide_eq_true_eq, decide_eq_false_iff_not, ne_eq, Bool.not_eq_eq_eq_not, Bool.not_true, beq_iff_eq, bne_iff_ne]; exact Iff.rfl) | exact Iff.rfl) (fun ht5 => ?_) (fun ht5 => ?_)
         ·
          as_aux_lemma =>
           refine c_seq (c_region ?_)
           refine wv h (r_move h rfl) rfl ?_
           clear h a w; intro a w h
           first
                      | (refine wl rfl (op_call h rfl K.go_disk_Disk_Flush (disk_Flush s _ _ _ _ 0 rfl (by first | assumption | exact Dk.OkN.ok' (by decide)) (by first | assumption | omega | exact Dk.OkN.lt (by decide)) h.2) rfl ?_))
                      | (refine wl rfl (op_call h rfl K.go_disk_Disk_Flush (disk_Flush s _ _ _ _ 1 rfl (by first | assumption | exact Dk.OkN.ok' (by decide)) (by first | assumption | omega | exact Dk.OkN.lt (by decide)) h.2) rfl ?_))
                      | (refine wl rfl (op_call h rfl K.go_disk_Disk_Flush (disk_Flush s _ _ _ _ 2 rfl (by first | assumption | exact Dk.OkN.ok' (by decide)) (by first | assumption | omega | exact Dk.OkN.lt (by decide)) h.2) rfl ?_))
                      | (refine wl rfl (op_call h rfl K.go_disk_Disk_Flush (disk_Flush s _ _ _ _ 3 rfl (by first | assumption | exact Dk.OkN.ok' (by decide)) (by first | assumption | omega | exact Dk.OkN.lt (by decide)) h.2) rfl ?_))
                      | (refine wl rfl (op_call h rfl K.go_disk_Disk_Flush (disk_Flush s _ _ _ _ 4 rfl (by first | assumption | exact Dk.OkN.ok' (by decide)) (by first | assumption | omega | exact Dk.OkN.lt (by decide)) h.2) rfl ?_))
                      | (refine wl rfl (op_call h rfl K.go_disk_Disk_Flush (disk_Flush s _ _ _ _ 5 rfl (by first | assumption | exact Dk.OkN.ok' (by decide)) (by first | assumption | omega | exact Dk.OkN.lt (by decide)) h.2) rfl ?_))
           clear h a w; intro x a w hx h
           (try simp only [List.set_cons_zero, List.set_cons_succ] at h)
           refine wv h (r_assign h rfl) rfl ?_
           clear h a w; intro a w h
           refine wnil (c_then ?_)
           refine c_seq ?_
           refine c_seq (c_region ?_)
           refine wv h (r_move h rfl) rfl ?_
           clear h a w; intro a w h
           refine wnil (c_then ?_)
           first
            | refine c_condD h rfl (fun ht6 => ?_) (fun ht6 => ?_)
            | refine c_condP h rfl (by first | (simp only [Bool.and_eq_true, Bool.or_eq_true, Bool.not_eq_true', decide_eq_true_eq, decide_eq_false_iff_not, ne_eq, Bool.not_eq_eq_eq_not, Bool.not_true, beq_iff_eq, bne_iff_ne]; exact Iff.rfl) | exact Iff.rfl) (fun ht6 => ?_) (fun ht6 => ?_)
           ·
            obtain ⟨f1, f2, f3⟩ := off_facts ht6
            rw [f1, f2] at h
            as_aux_lemma =>
             refine c_seq ?_
             refine c_seq (c_region ?_)
             refine wv h (r_move h rfl) rfl ?_
             clear h a w; intro a w h
             refine wv h (r_bin h rfl rfl (B.neq_int)) rfl ?_
             clear h a w; intro a w h
             refine wnil (c_then ?_)
             first
              | refine c_condD h rfl (fun ht7 => ?_) (fun ht7 => ?_)
              | refine c_condP h rfl (by first | (simp only [Bool.and_eq_true, Bool.or_eq_true, Bool.not_eq_true', decide_eq_true_eq, decide_eq_false_iff_not, ne_eq, Bool.not_eq_eq_eq_not, Bool.not_true, beq_iff_eq, bne_iff_ne]; exact Iff.rfl) | exact Iff.rfl) (fun ht7 => ?_) (fun ht7 => ?_)
             ·
              exfalso
              simp at ht7
             ·
              refine c_skip ?_
              refine c_then ?_
              refine c_exit ?_
              refine e_then ?_
              refine e_here ?_
              exact ⟨⟨D, vs, T, va, vw, U, G⟩, h.mem (fun z => z.drop 1) |>.keep [1, 5, 6, 7, 9, 10, 11, 12, 13, 14], hPS⟩
           ·
            obtain ⟨f1, f2, f3, f4, f5, f6⟩ := flush_facts (D := D) (by simpa using ht6) hd3
            have hfok := Dk.flush_ok hok hac9
            rw [f1, show (if decide (D.left ≠ 0) = true then (0 : Int) else 9) = if D.left = 0 then 9 else 0 by by_cases q : D.left = 0 <;> simp [q]] at h
            refine c_skip ?_
            refine c_then ?_
            refine c_seq (c_region ?_)
            refine wv h (r_move h rfl) rfl ?_
            clear h a w; intro a w h
            refine wv h (r_bin h rfl rfl (B.add_i64 (by omega) (by omega))) rfl ?_
            clear h a w; intro a w h
            refine wv h (r_assign h rfl) rfl ?_
            clear h a w; intro a w h
            refine wnil (c_then ?_)
            refine c_seq (c_region ?_)
            refine wv h (r_move h rfl) rfl ?_
            clear h a w; intro a w h
            refine wv h (r_bin h rfl rfl (B.eql_int)) rfl ?_
            clear h a w; intro a w h
            refine wv h (r_assign h rfl) rfl ?_
            clear h a w; intro a w h
            refine wnil (c_then ?_)
            refine c_meet h (X := Unit) (fun _ => [(1, av), (5, .int .i64 (i : Int)), (6, dp b), (7, vs), (9, va), (10, vw), (11, .int .i64 D.flush.left), (12, .bool (decide (D.left = 0))), (13, .int .i64 D.flush.acts), (14, .int .i64 (m : Int)), (16, .int .i64 (if D.left = 0 then 9 else 0))])
              (fun _ => DiskI b D.flush :: OwnL id vs T :: OwnL (Value.int .i64) va (wetI D) :: OwnL id vw U :: (G ++ F)) (fun _ => True) ?_ ?_
            ·
             refine c_seq (c_region ?_)
             refine wv h (r_move h rfl) rfl ?_
             clear h a w; intro a w h
             refine wv h (r_bin h rfl rfl (B.gtr_int)) rfl ?_
             clear h a w; intro a w h
             refine wnil (c_then ?_)
             first
              | refine c_condD h rfl (fun ht8 => ?_) (fun ht8 => ?_)
              | refine c_condP h rfl (by first | (simp only [Bool.and_eq_true, Bool.or_eq_true, Bool.not_eq_true', decide_eq_true_eq, decide_eq_false_iff_not, ne_eq, Bool.not_eq_eq_eq_not, Bool.not_true, beq_iff_eq, bne_iff_ne]; exact Iff.rfl) | exact Iff.rfl) (fun ht8 => ?_) (fun ht8 => ?_)
             ·
              as_aux_lemma =>
               refine c_region ?_
               refine wv h (r_move h rfl) rfl ?_
               clear h a w; intro a w h
               refine wv h (r_bin h rfl rfl (B.sub_i64 (by omega) (by omega))) rfl ?_
               clear h a w; intro a w h
               refine wv h (r_assign h rfl) rfl ?_
               clear h a w; intro a w h
               refine wnil ?_
               rw [show D.left - 1 = D.flush.left by rw [f3, if_pos ht8], ← f4] at h
               exact ⟨(), h.mem (fun z => z.drop 1) |>.keep [1, 5, 6, 7, 9, 10, 11, 12, 13, 14, 16], trivial⟩
             ·
              refine c_skip ?_
              replace h := h.keep [1, 5, 6, 7, 9, 10, 11, 12, 13, 14, 16]
              rw [show Value.int .i64 D.left = Value.int .i64 D.flush.left by rw [f3, if_neg ht8], ← f4] at h
              exact ⟨(), h.mem (fun z => z.drop 1), trivial⟩
            ·
             clear h a w; intro z a w hz h
             refine c_seq ?_
             refine c_seq (c_region ?_)
             refine wv h (r_move h rfl) rfl ?_
             clear h a w; intro a w h
             refine wv h (r_move h rfl) rfl ?_
             clear h a w; intro a w h
             refine wv h (r_bin h rfl rfl (B.eql_int)) rfl ?_
             clear h a w; intro a w h
             refine wv h (r_boolne h K.u_bool rfl rfl) rfl ?_
             clear h a w; intro a w h
             refine wv h (r_move h rfl) rfl ?_
             clear h a w; intro a w h
             refine wvG h (by first | exact .t rfl | exact .f rfl | exact .gt rfl | exact .gf rfl) (fun hg => by (try simp only [↓gval_on hg, ↓gval_and hg] at h); (have hg2 := hg; (try simp only [Bool.and_eq_true, Bool.or_eq_true, Bool.not_eq_true', decide_eq_true_eq, decide_eq_false_iff_not] at hg2)); first | exact r_move h rfl) rfl ?_
             clear h a w; intro a w h
             refine wvG h (by first | exact .t rfl | exact .f rfl | exact .gt rfl | exact .gf rfl) (fun hg => by (try simp only [↓gval_on hg, ↓gval_and hg] at h); (have hg2 := hg; (try simp only [Bool.and_eq_true, Bool.or_eq_true, Bool.not_eq_true', decide_eq_true_eq, decide_eq_false_iff_not] at hg2)); first | exact r_not h rfl) rfl ?_
             clear h a w; intro a w h
             refine wvG h (by first | exact .t rfl | exact .f rfl | exact .gt rfl | exact .gf rfl) (fun hg => by (try simp only [↓gval_on hg, ↓gval_and hg] at h); (have hg2 := hg; (try simp only [Bool.and_eq_true, Bool.or_eq_true, Bool.not_eq_true', decide_eq_true_eq, decide_eq_false_iff_not] at hg2)); first | exact r_move h rfl) rfl ?_
             clear h a w; intro a w h
             refine wvG h (by first | exact .t rfl | exact .f rfl | exact .gt rfl | exact .gf rfl) (fun hg => by (try simp only [↓gval_on hg, ↓gval_and hg] at h); (have hg2 := hg; (try simp only [Bool.and_eq_true, Bool.or_eq_true, Bool.not_eq_true', decide_eq_true_eq, decide_eq_false_iff_not] at hg2)); first | exact r_move h rfl) rfl ?_
             clear h a w; intro a w h
             refine wvG h (by first | exact .t rfl | exact .f rfl | exact .gt rfl | exact .gf rfl) (fun hg => by (try simp only [↓gval_on hg, ↓gval_and hg] at h); (have hg2 := hg; (try simp only [Bool.and_eq_true, Bool.or_eq_true, Bool.not_eq_true', decide_eq_true_eq, decide_eq_false_iff_not] at hg2)); first | exact r_bin h rfl rfl (B.neq_int)) rfl ?_
             clear h a w; intro a w h
             refine wvG h (by first | exact .t rfl | exact .f rfl | exact .gt rfl | exact .gf rfl) (fun hg => by (try simp only [↓gval_on hg, ↓gval_and hg] at h); (have hg2 := hg; (try simp only [Bool.and_eq_true, Bool.or_eq_true, Bool.not_eq_true', decide_eq_true_eq, decide_eq_false_iff_not] at hg2)); first | exact r_pickA h rfl rfl rfl | exact r_pickO h rfl rfl rfl | exact r_pick_true h rfl rfl | exact r_pick_false h rfl rfl | exact r_pick h rfl rfl rfl) rfl ?_
             clear h a w; intro a w h
             first
                          | (refine wv h (r_pickA h rfl rfl rfl) rfl ?_)
                          | (refine wv h (r_pickO h rfl rfl rfl) rfl ?_)
                          | (refine wv h (r_pick_true h rfl rfl) rfl ?_)
                          | (refine wv h (r_pick_false h rfl rfl) rfl ?_)
                          | (refine wv h (r_pick h rfl rfl rfl) rfl ?_)
             clear h a w; intro a w h
             refine wnil (c_then ?_)
             first
              | refine c_condD h rfl (fun ht9 => ?_) (fun ht9 => ?_)
              | refine c_condP h rfl (by first | (simp only [Bool.and_eq_true, Bool.or_eq_true, Bool.not_eq_true', decide_eq_true_eq, decide_eq_false_iff_not, ne_eq, Bool.not_eq_eq_eq_not, Bool.not_true, beq_iff_eq, bne_iff_ne]; exact Iff.rfl) | exact Iff.rfl) (fun ht9 => ?_) (fun ht9 => ?_)
             ·
              exfalso
              by_cases q : D.left = 0 <;> simp [q] at ht9
             ·
              refine c_skip ?_
              refine c_then ?_
              refine c_seq ?_
              refine c_seq (c_region ?_)
              refine wv h (r_assign h rfl) rfl ?_
              clear h a w; intro a w h
              refine wnil (c_then ?_)
              refine c_block ?_
              refine c_loopX h (X := Nat × List Value) (fun x => [(1, av), (5, .int .i64 (i : Int)), (6, dp b), (7, vs), (9, va), (10, vw), (11, .int .i64 D.flush.left), (12, .bool (decide (D.left = 0))), (13, .int .i64 D.flush.acts), (14, .int .i64 (m : Int)), (17, .int .i64 (x.1 : Int))])
                (fun x => DiskI b D.flush :: OwnL id vs x.2 :: OwnL (Value.int .i64) va (wetI D) :: OwnL id vw U :: (G ++ F)) (fun x => x.1 ≤ D.wet.length ∧ (D.left = 0 → x.1 = 0) ∧ SafeV (G ++ F) x.2 (Dk.keepL (fun _ => true) 0 (D.wet.take x.1) D.safe)) (fun x => D.wet.length - x.1) (0, T) (h.keep [1, 5, 6, 7, 9, 10, 11, 12, 13, 14, 17])
                ⟨Nat.zero_le _, fun _ => rfl, hsv⟩ ?_
              clear h a w; intro x a w hx h
              obtain ⟨j, T2⟩ := x
              obtain ⟨hy1, hy2, hy3⟩ := hx
              dsimp only at hy1 hy2 hy3 h
              as_aux_lemma =>
               refine c_seq ?_
               refine c_seq (c_region ?_)
               refine wv h (r_move h rfl) rfl ?_
               clear h a w; intro a w h
               refine wv h (r_not h rfl) rfl ?_
               clear h a w; intro a w h
               refine wv h (r_move h rfl) rfl ?_
               clear h a w; intro a w h
               refine wvG h (by first | exact .t rfl | exact .f rfl | exact .gt rfl | exact .gf rfl) (fun hg => by (try simp only [↓gval_on hg, ↓gval_and hg] at h); (have hg2 := hg; (try simp only [Bool.and_eq_true, Bool.or_eq_true, Bool.not_eq_true', decide_eq_true_eq, decide_eq_false_iff_not] at hg2)); first | exact r_move h rfl) rfl ?_
               clear h a w; intro a w h
               refine wvG h (by first | exact .t rfl | exact .f rfl | exact .gt rfl | exact .gf rfl) (fun hg => by (try simp only [↓gval_on hg, ↓gval_and hg] at h); (have hg2 := hg; (try simp only [Bool.and_eq_true, Bool.or_eq_true, Bool.not_eq_true', decide_eq_true_eq, decide_eq_false_iff_not] at hg2)); first | exact r_move h rfl) rfl ?_
               clear h a w; intro a w h
               refine wvG h (by first | exact .t rfl | exact .f rfl | exact .gt rfl | exact .gf rfl) (fun hg => by (try simp only [↓gval_on hg, ↓gval_and hg] at h); (have hg2 := hg; (try simp only [Bool.and_eq_true, Bool.or_eq_true, Bool.not_eq_true', decide_eq_true_eq, decide_eq_false_iff_not] at hg2)); first | exact r_lenV h rfl K.u_S_int (by first | exact Views.own 0 rfl | exact Views.own 1 rfl | exact Views.own 2 rfl | exact Views.own 3 rfl | exact Views.own 4 rfl | exact Views.own 5 rfl | assumption | exact Views.of_drop 1 (by assumption) | exact Views.of_drop 2 (by assumption) | exact Views.of_drop 3 (by assumption) | exact Views.of_drop 4 (by assumption) | exact Views.of_drop 5 (by assumption) | exact Views.of_drop 6 (by assumption) | exact Views.of_drop 7 (by assumption) | exact Views.of_drop 8 (by assumption) | exact Views.of_drop 9 (by assumption) | exact Views.of_drop 10 (by assumption) | exact Views.of_drop 11 (by assumption) | exact Views.of_drop 12 (by assumption))) rfl ?_
               clear h a w; intro a w h
               refine wvG h (by first | exact .t rfl | exact .f rfl | exact .gt rfl | exact .gf rfl) (fun hg => by (try simp only [↓gval_on hg, ↓gval_and hg] at h); (have hg2 := hg; (try simp only [Bool.and_eq_true, Bool.or_eq_true, Bool.not_eq_true', decide_eq_true_eq, decide_eq_false_iff_not] at hg2)); first | exact r_bin h rfl rfl (B.lss_int)) rfl ?_
               clear h a w; intro a w h
               first
                              | (refine wv h (r_pickA h rfl rfl rfl) rfl ?_)
                              | (refine wv h (r_pickO h rfl rfl rfl) rfl ?_)
                              | (refine wv h (r_pick_true h rfl rfl) rfl ?_)
                              | (refine wv h (r_pick_false h rfl rfl) rfl ?_)
                              | (refine wv h (r_pick h rfl rfl rfl) rfl ?_)
               clear h a w; intro a w h
               refine wnil (c_then ?_)
               first
                | refine c_condD h rfl (fun ht10 => ?_) (fun ht10 => ?_)
                | refine c_condP h rfl (by first | (simp only [Bool.and_eq_true, Bool.or_eq_true, Bool.not_eq_true', decide_eq_true_eq, decide_eq_false_iff_not, ne_eq, Bool.not_eq_eq_eq_not, Bool.not_true, beq_iff_eq, bne_iff_ne]; exact Iff.rfl) | exact Iff.rfl) (fun ht10 => ?_) (fun ht10 => ?_)
               ·
                obtain ⟨q, hq⟩ := cellsW_get (l := D.wet) (i := j) (by omega)
                have hql := hd1 q (List.mem_of_getElem? hq)
                have hTl : T2.length = i := by rw [hy3.1, Dk.keepL_len, hsl]
                obtain ⟨u, hu⟩ : ∃ u, U[j]? = some u := ⟨U[j]'(by omega), by simp⟩
                have huv := hwv j u q hu hq
                refine c_skip ?_
                refine c_then ?_
                refine c_seq ?_
                refine c_block ?_
                refine c_tail 10 K.mixed (by kernel_rfl) h ?_
                clear h a w; intro a w h
                refine yv h (r_move h rfl) rfl ?_
                clear h a; intro a h
                refine yv h (r_move h rfl) rfl ?_
                clear h a; intro a h
                refine yv h (r_move h rfl) rfl ?_
                clear h a; intro a h
                refine yv h (r_elP h rfl rfl K.u_S_int K.sz_int (by first | exact Views.own 0 rfl | exact Views.own 1 rfl | exact Views.own 2 rfl | exact Views.own 3 rfl | exact Views.own 4 rfl | exact Views.own 5 rfl | assumption | exact Views.of_drop 1 (by assumption) | exact Views.of_drop 2 (by assumption) | exact Views.of_drop 3 (by assumption) | exact Views.of_drop 4 (by assumption) | exact Views.of_drop 5 (by assumption) | exact Views.of_drop 6 (by assumption) | exact Views.of_drop 7 (by assumption) | exact Views.of_drop 8 (by assumption) | exact Views.of_drop 9 (by assumption) | exact Views.of_drop 10 (by assumption) | exact Views.of_drop 11 (by assumption) | exact Views.of_drop 12 (by assumption)) (by first | omega | (simp; done)) (by first | omega | (simp only [List.length_cons, List.length_nil]; omega) | (simp; done) | (simp; omega))) rfl ?_
                clear h a; intro a h
                refine yv h (r_eli h rfl K.u_int rfl (by first | exact Views.own 0 rfl | exact Views.own 1 rfl | exact Views.own 2 rfl | exact Views.own 3 rfl | exact Views.own 4 rfl | exact Views.own 5 rfl | assumption | exact Views.of_drop 1 (by assumption) | exact Views.of_drop 2 (by assumption) | exact Views.of_drop 3 (by assumption) | exact Views.of_drop 4 (by assumption) | exact Views.of_drop 5 (by assumption) | exact Views.of_drop 6 (by assumption) | exact Views.of_drop 7 (by assumption) | exact Views.of_drop 8 (by assumption) | exact Views.of_drop 9 (by assumption) | exact Views.of_drop 10 (by assumption) | exact Views.of_drop 11 (by assumption) | exact Views.of_drop 12 (by assumption)) (by first | omega | (simp only [List.length_cons, List.length_nil]; omega) | (simp; done) | (simp; omega))) rfl ?_
                clear h a; intro a h
                rw [wetI_get hq] at h
                refine yv h (r_move h rfl) rfl ?_
                clear h a; intro a h
                refine yv h (r_move h rfl) rfl ?_
                clear h a; intro a h
                refine yv h (r_elP h rfl rfl K.u_S_S_uint8 K.sz_S_uint8 (by first | exact Views.own 0 rfl | exact Views.own 1 rfl | exact Views.own 2 rfl | exact Views.own 3 rfl | exact Views.own 4 rfl | exact Views.own 5 rfl | assumption | exact Views.of_drop 1 (by assumption) | exact Views.of_drop 2 (by assumption) | exact Views.of_drop 3 (by assumption) | exact Views.of_drop 4 (by assumption) | exact Views.of_drop 5 (by assumption) | exact Views.of_drop 6 (by assumption) | exact Views.of_drop 7 (by assumption) | exact Views.of_drop 8 (by assumption) | exact Views.of_drop 9 (by assumption) | exact Views.of_drop 10 (by assumption) | exact Views.of_drop 11 (by assumption) | exact Views.of_drop 12 (by assumption)) (by first | omega | (simp; done)) (by first | omega | (simp only [List.length_cons, List.length_nil]; omega) | (simp; done) | (simp; omega))) rfl ?_
                clear h a; intro a h
                refine yv h (r_elG h rfl K.u_S_uint8 rfl (Views.own 3 rfl) (u := u) (by simpa using hu)) rfl ?_
                clear h a; intro a h
                refine yv h (r_elP h rfl rfl K.u_S_S_uint8 K.sz_S_uint8 (by first | exact Views.own 0 rfl | exact Views.own 1 rfl | exact Views.own 2 rfl | exact Views.own 3 rfl | exact Views.own 4 rfl | exact Views.own 5 rfl | assumption | exact Views.of_drop 1 (by assumption) | exact Views.of_drop 2 (by assumption) | exact Views.of_drop 3 (by assumption) | exact Views.of_drop 4 (by assumption) | exact Views.of_drop 5 (by assumption) | exact Views.of_drop 6 (by assumption) | exact Views.of_drop 7 (by assumption) | exact Views.of_drop 8 (by assumption) | exact Views.of_drop 9 (by assumption) | exact Views.of_drop 10 (by assumption) | exact Views.of_drop 11 (by assumption) | exact Views.of_drop 12 (by assumption)) (by first | omega | (simp; done)) (by first | omega | (simp only [List.length_cons, List.length_nil]; omega) | (simp; done) | (simp; omega))) rfl ?_
                clear h a; intro a h
                refine ynil ?_
                refine wl rfl (op_storeI (j := q.1) h rfl rfl K.sz_S_uint8 (Views.oneCell huv (h.2.drop 4)) 1 rfl (by omega) ?_)
                clear h a w; intro a w h
                refine wnil ?_
                refine b_normal ?_
                refine c_then ?_
                refine c_region ?_
                refine wv h (r_move h rfl) rfl ?_
                clear h a w; intro a w h
                refine wv h (r_bin h rfl rfl (B.add_i64 (by omega) (by omega))) rfl ?_
                clear h a w; intro a w h
                refine wv h (r_assign h rfl) rfl ?_
                clear h a w; intro a w h
                refine wnil ?_
                exact ⟨(j + 1, T2.set q.1 u), h.keep [1, 5, 6, 7, 9, 10, 11, 12, 13, 14, 17], ⟨by show j + 1 ≤ _; omega, fun e => absurd e ht10.1, by
                  show SafeV (G ++ F) (T2.set q.1 u) (Dk.keepL (fun _ => true) 0 (D.wet.take (j + 1)) D.safe)
                  rw [keepL_take _ hq, if_pos rfl]
                  exact hy3.set huv⟩, by show D.wet.length - (j + 1) < D.wet.length - j; omega⟩
               ·
                have hTs : SafeV (G ++ F) T2 D.flush.safe := by
                  by_cases q : D.left = 0
                  · obtain rfl := hy2 q
                    rw [(f5 q).1]; exact hy3
                  · rw [(f6 q).1]
                    rwa [show j = D.wet.length by rcases Nat.lt_or_ge j D.wet.length with e | e; exact absurd ⟨q, by omega⟩ ht10; omega, List.take_length] at hy3
                have hsl2 : D.flush.safe.length = i := by rw [Dk.flush_len]; exact hsl
                have hPS2 : ∀ (va' vw' : Value) (U' : List Value), U'.length = D.flush.wet.length → (∀ (j : Nat) (u : Value) (q : Nat × B64), U'[j]? = some u → D.flush.wet[j]? = some q → ViewsB (G ++ F) u q.2.val) → PSok F i (m + 1) ⟨D.flush, vs, T2, va', vw', U', G⟩ :=
                  fun va' vw' U' e1 e2 => ⟨hfok.1, by have := hfok.2; dsimp only; omega, hsl2, hTs, e1, e2⟩
                refine c_exit ?_
                refine e_then ?_
                refine e_then ?_
                refine e_here ?_
                refine c_then ?_
                refine c_seq (c_region ?_)
                refine wv h (r_move h rfl) rfl ?_
                clear h a w; intro a w h
                refine wv h (r_not h rfl) rfl ?_
                clear h a w; intro a w h
                refine wnil (c_then ?_)
                first
                 | refine c_condD h rfl (fun ht11 => ?_) (fun ht11 => ?_)
                 | refine c_condP h rfl (by first | (simp only [Bool.and_eq_true, Bool.or_eq_true, Bool.not_eq_true', decide_eq_true_eq, decide_eq_false_iff_not, ne_eq, Bool.not_eq_eq_eq_not, Bool.not_true, beq_iff_eq, bne_iff_ne]; exact Iff.rfl) | exact Iff.rfl) (fun ht11 => ?_) (fun ht11 => ?_)
                ·
                 as_aux_lemma =>
                  refine c_seq (c_region ?_)
                  refine wv h (r_assign h rfl) rfl ?_
                  clear h a w; intro a w h
                  refine wnil (c_then ?_)
                  refine c_region ?_
                  refine wv h (r_assign h rfl) rfl ?_
                  clear h a w; intro a w h
                  refine wnil ?_
                  refine b_normal ?_
                  have hwf := (f6 ht11).2
                  replace h := ((h.rid 3).rid 2).addNilL (enc := id) |>.addNilL (enc := Value.int .i64)
                  replace h := (h.front 3 rfl).front 3 rfl
                  refine ⟨⟨D.flush, vs, T2, .slice none 0 0, .slice none 0 0, [], G⟩, ?_, hPS2 _ _ [] (by rw [hwf]; rfl) (fun j u q hu => by simp at hu)⟩
                  rw [← f2] at h
                  show St 305 s a w _ (DiskI b D.flush :: OwnL id vs T2 :: OwnL (Value.int .i64) (.slice none 0 0) (wetI D.flush) :: OwnL id (.slice none 0 0) [] :: (G ++ F))
                  rw [show wetI D.flush = [] by rw [wetI, hwf]; rfl]
                  exact h.keep [1, 5, 6, 7, 9, 10, 11, 12, 13, 14]
                ·
                 refine c_skip ?_
                 refine b_normal ?_
                 have hwf := (f5 (by simpa using ht11)).2
                 refine ⟨⟨D.flush, vs, T2, va, vw, U, G⟩, ?_, hPS2 _ _ U (by rw [hwf]; exact hwl) (by rw [hwf]; exact hwv)⟩
                 rw [← f2, show wetI D = wetI D.flush by rw [wetI, wetI, hwf]] at h
                 exact h.keep [1, 5, 6, 7, 9, 10, 11, 12, 13, 14]
         ·
          refine c_seq (c_region ?_)
          refine wv h (r_bin h rfl rfl (B.eql_u8 (y := 6))) rfl ?_
          clear h a w; intro a w h
          refine wv h (r_assign h rfl) rfl ?_
          clear h a w; intro a w h
          refine wnil (c_then ?_)
          first
           | refine c_condD h rfl (fun ht12 => ?_) (fun ht12 => ?_)
           | refine c_condP h rfl (by first | (simp only [Bool.and_eq_true, Bool.or_eq_true, Bool.not_eq_true', decide_eq_true_eq, decide_eq_false_iff_not, ne_eq, Bool.not_eq_eq_eq_not, Bool.not_true, beq_iff_eq, bne_iff_ne]; exact Iff.rfl) | exact Iff.rfl) (fun ht12 => ?_) (fun ht12 => ?_)
          ·
           have hAr : ∀ z : Int, z ≤ 9223372036854775807 → PSok F i (m + 1) ⟨D.arm z, vs, T, va, vw, U, G⟩ := fun z hz => by
             obtain ⟨g1, g2⟩ := Dk.arm_ok hok hz
             exact ⟨g1, by dsimp only; omega, hsl, hsv, hwl, hwv⟩
           have hmd : A.at_.tmod 8 < 8 := Int.tmod_lt_of_pos _ (by decide)
           as_aux_lemma =>
            refine c_seq (c_region ?_)
            refine wv h (r_fieldAddr h 1 rfl K.u_interleaflaw04_Act rfl K.sz_int rfl rfl) rfl ?_
            clear h a w; intro a w h
            first
                        | (refine wv h (r_ldN h rfl K.u_int rfl 0 rfl rfl) rfl ?_)
                        | (refine wv h (r_ldN h rfl K.u_int rfl 1 rfl rfl) rfl ?_)
                        | (refine wv h (r_ldN h rfl K.u_int rfl 2 rfl rfl) rfl ?_)
                        | (refine wv h (r_ldN h rfl K.u_int rfl 3 rfl rfl) rfl ?_)
                        | (refine wv h (r_ldN h rfl K.u_int rfl 4 rfl rfl) rfl ?_)
                        | (refine wv h (r_ldN h rfl K.u_int rfl 5 rfl rfl) rfl ?_)
                        | (refine wv h (r_ldN h rfl K.u_int rfl 6 rfl rfl) rfl ?_)
                        | (refine wv h (r_ldC (o := 1) h rfl K.u_int rfl 0 rfl) rfl ?_)
                        | (refine wv h (r_ldC (o := 1) h rfl K.u_int rfl 1 rfl) rfl ?_)
                        | (refine wv h (r_ldC (o := 1) h rfl K.u_int rfl 2 rfl) rfl ?_)
                        | (refine wv h (r_ldC (o := 1) h rfl K.u_int rfl 3 rfl) rfl ?_)
                        | (refine wv h (r_ldC (o := 1) h rfl K.u_int rfl 4 rfl) rfl ?_)
                        | (refine wv h (r_ldC (o := 1) h rfl K.u_int rfl 5 rfl) rfl ?_)
                        | (refine wv h (r_ldC (o := 1) h rfl K.u_int rfl 6 rfl) rfl ?_)
                        | (refine wv h (r_load h rfl K.u_int rfl 0 rfl rfl) rfl ?_)
                        | (refine wv h (r_load h rfl K.u_int rfl 1 rfl rfl) rfl ?_)
                        | (refine wv h (r_load h rfl K.u_int rfl 2 rfl rfl) rfl ?_)
                        | (refine wv h (r_load h rfl K.u_int rfl 3 rfl rfl) rfl ?_)
                        | (refine wv h (r_load h rfl K.u_int rfl 4 rfl rfl) rfl ?_)
                        | (refine wv h (r_load h rfl K.u_int rfl 5 rfl rfl) rfl ?_)
                        | (refine wv h (r_load1 h rfl K.u_int rfl (by assumption)) rfl ?_)
            clear h a w; intro a w h
            refine wv h (r_bin h rfl rfl (B.remt_i64 (by decide))) rfl ?_
            clear h a w; intro a w h
            refine wv h (r_assign h rfl) rfl ?_
            clear h a w; intro a w h
            refine wnil (c_then ?_)
            refine c_seq ?_
            refine c_seq (c_region ?_)
            refine wv h (r_move h rfl) rfl ?_
            clear h a w; intro a w h
            refine wv h (r_bin h rfl rfl (B.lss_int)) rfl ?_
            clear h a w; intro a w h
            refine wnil (c_then ?_)
            first
             | refine c_condD h rfl (fun ht13 => ?_) (fun ht13 => ?_)
             | refine c_condP h rfl (by first | (simp only [Bool.and_eq_true, Bool.or_eq_true, Bool.not_eq_true', decide_eq_true_eq, decide_eq_false_iff_not, ne_eq, Bool.not_eq_eq_eq_not, Bool.not_true, beq_iff_eq, bne_iff_ne]; exact Iff.rfl) | exact Iff.rfl) (fun ht13 => ?_) (fun ht13 => ?_)
            ·
             as_aux_lemma =>
              refine c_region ?_
              refine wv h (r_assign h rfl) rfl ?_
              clear h a w; intro a w h
              refine wnil ?_
              refine c_then ?_
              refine c_region ?_
              refine wv h (r_move h rfl) rfl ?_
              clear h a w; intro a w h
              refine wv h (r_move h rfl) rfl ?_
              clear h a w; intro a w h
              first
                            | (refine wl rfl (op_call h rfl K.go_disk_Disk_Arm (disk_Arm s _ _ _ _ _ 0 rfl h.2) rfl ?_))
                            | (refine wl rfl (op_call h rfl K.go_disk_Disk_Arm (disk_Arm s _ _ _ _ _ 1 rfl h.2) rfl ?_))
                            | (refine wl rfl (op_call h rfl K.go_disk_Disk_Arm (disk_Arm s _ _ _ _ _ 2 rfl h.2) rfl ?_))
                            | (refine wl rfl (op_call h rfl K.go_disk_Disk_Arm (disk_Arm s _ _ _ _ _ 3 rfl h.2) rfl ?_))
                            | (refine wl rfl (op_call h rfl K.go_disk_Disk_Arm (disk_Arm s _ _ _ _ _ 4 rfl h.2) rfl ?_))
                            | (refine wl rfl (op_call h rfl K.go_disk_Disk_Arm (disk_Arm s _ _ _ _ _ 5 rfl h.2) rfl ?_))
              clear h a w; intro x a w hx h
              (try simp only [List.set_cons_zero, List.set_cons_succ] at h)
              refine wnil ?_
              refine b_normal ?_
              have e1 : (-1 : Int) = (D.arm (-1)).left := by show _ = max (-1 : Int) (-1); omega
              refine ⟨⟨D.arm (-1), vs, T, va, vw, U, G⟩, ?_, hAr _ (by decide)⟩
              dsimp only
              rw [← e1]
              exact h.mem (fun z => z.drop 1) |>.keep [1, 5, 6, 7, 9, 10, 11, 12, 13, 14]
            ·
             refine c_skip ?_
             refine c_then ?_
             refine c_region ?_
             refine wv h (r_move h rfl) rfl ?_
             clear h a w; intro a w h
             refine wv h (r_move h rfl) rfl ?_
             clear h a w; intro a w h
             first
                          | (refine wl rfl (op_call h rfl K.go_disk_Disk_Arm (disk_Arm s _ _ _ _ _ 0 rfl h.2) rfl ?_))
                          | (refine wl rfl (op_call h rfl K.go_disk_Disk_Arm (disk_Arm s _ _ _ _ _ 1 rfl h.2) rfl ?_))
                          | (refine wl rfl (op_call h rfl K.go_disk_Disk_Arm (disk_Arm s _ _ _ _ _ 2 rfl h.2) rfl ?_))
                          | (refine wl rfl (op_call h rfl K.go_disk_Disk_Arm (disk_Arm s _ _ _ _ _ 3 rfl h.2) rfl ?_))
                          | (refine wl rfl (op_call h rfl K.go_disk_Disk_Arm (disk_Arm s _ _ _ _ _ 4 rfl h.2) rfl ?_))
                          | (refine wl rfl (op_call h rfl K.go_disk_Disk_Arm (disk_Arm s _ _ _ _ _ 5 rfl h.2) rfl ?_))
             clear h a w; intro x a w hx h
             (try simp only [List.set_cons_zero, List.set_cons_succ] at h)
             refine wnil ?_
             refine b_normal ?_
             have e1 : A.at_.tmod 8 = (D.arm (A.at_.tmod 8)).left := by show _ = max (A.at_.tmod 8) (-1); omega
             refine ⟨⟨D.arm (A.at_.tmod 8), vs, T, va, vw, U, G⟩, ?_, hAr _ (by omega)⟩
             dsimp only
             rw [← e1]
             exact h.mem (fun z => z.drop 1) |>.keep [1, 5, 6, 7, 9, 10, 11, 12, 13, 14]
          ·
           refine c_seq (c_region ?_)
           refine wv h (r_bin h rfl rfl (B.eql_u8 (y := 7))) rfl ?_
           clear h a w; intro a w h
           refine wv h (r_assign h rfl) rfl ?_
           clear h a w; intro a w h
           refine wnil (c_then ?_)
           first
            | refine c_condD h rfl (fun ht14 => ?_) (fun ht14 => ?_)
            | refine c_condP h rfl (by first | (simp only [Bool.and_eq_true, Bool.or_eq_true, Bool.not_eq_true', decide_eq_true_eq, decide_eq_false_iff_not, ne_eq, Bool.not_eq_eq_eq_not, Bool.not_true, beq_iff_eq, bne_iff_ne]; exact Iff.rfl) | exact Iff.rfl) (fun ht14 => ?_) (fun ht14 => ?_)
           ·
            have hcok := Dk.crash_ok hok A.p
            as_aux_lemma =>
             refine c_seq (c_region ?_)
             refine wv h (r_move h rfl) rfl ?_
             clear h a w; intro a w h
             refine wv h (r_fieldAddr h 2 rfl K.u_interleaflaw04_Act rfl K.sz_S_uint8 rfl rfl) rfl ?_
             clear h a w; intro a w h
             first
                          | (refine wv h (r_ldN h rfl K.u_S_uint8 rfl 0 rfl rfl) rfl ?_)
                          | (refine wv h (r_ldN h rfl K.u_S_uint8 rfl 1 rfl rfl) rfl ?_)
                          | (refine wv h (r_ldN h rfl K.u_S_uint8 rfl 2 rfl rfl) rfl ?_)
                          | (refine wv h (r_ldN h rfl K.u_S_uint8 rfl 3 rfl rfl) rfl ?_)
                          | (refine wv h (r_ldN h rfl K.u_S_uint8 rfl 4 rfl rfl) rfl ?_)
                          | (refine wv h (r_ldN h rfl K.u_S_uint8 rfl 5 rfl rfl) rfl ?_)
                          | (refine wv h (r_ldN h rfl K.u_S_uint8 rfl 6 rfl rfl) rfl ?_)
                          | (refine wv h (r_ldC (o := 2) h rfl K.u_S_uint8 rfl 0 rfl) rfl ?_)
                          | (refine wv h (r_ldC (o := 2) h rfl K.u_S_uint8 rfl 1 rfl) rfl ?_)
                          | (refine wv h (r_ldC (o := 2) h rfl K.u_S_uint8 rfl 2 rfl) rfl ?_)
                          | (refine wv h (r_ldC (o := 2) h rfl K.u_S_uint8 rfl 3 rfl) rfl ?_)
                          | (refine wv h (r_ldC (o := 2) h rfl K.u_S_uint8 rfl 4 rfl) rfl ?_)
                          | (refine wv h (r_ldC (o := 2) h rfl K.u_S_uint8 rfl 5 rfl) rfl ?_)
                          | (refine wv h (r_ldC (o := 2) h rfl K.u_S_uint8 rfl 6 rfl) rfl ?_)
                          | (refine wv h (r_load h rfl K.u_S_uint8 rfl 0 rfl rfl) rfl ?_)
                          | (refine wv h (r_load h rfl K.u_S_uint8 rfl 1 rfl rfl) rfl ?_)
                          | (refine wv h (r_load h rfl K.u_S_uint8 rfl 2 rfl rfl) rfl ?_)
                          | (refine wv h (r_load h rfl K.u_S_uint8 rfl 3 rfl rfl) rfl ?_)
                          | (refine wv h (r_load h rfl K.u_S_uint8 rfl 4 rfl rfl) rfl ?_)
                          | (refine wv h (r_load h rfl K.u_S_uint8 rfl 5 rfl rfl) rfl ?_)
                          | (refine wv h (r_load1 h rfl K.u_S_uint8 rfl (by assumption)) rfl ?_)
             clear h a w; intro a w h
             first
                          | (refine wl rfl (op_call h rfl K.go_disk_Disk_Crash (disk_Crash s _ _ _ _ _ _ 0 rfl (by first | assumption | exact Dk.OkN.ok' (by decide)) (by first | exact ViewsB.own 0 rfl | exact ViewsB.own 1 rfl | exact ViewsB.own 2 rfl | exact ViewsB.own 3 rfl | exact ViewsB.own 4 rfl | exact ViewsB.own 5 rfl | assumption | exact ViewsB.nil _ | exact ViewsB.arr 0 rfl (by first | assumption | rfl | (simp; done)) (Nat.le_refl _) (by simp [maxLen]) | exact ViewsB.arr 1 rfl (by first | assumption | rfl | (simp; done)) (Nat.le_refl _) (by simp [maxLen]) | exact ViewsB.arr 2 rfl (by first | assumption | rfl | (simp; done)) (Nat.le_refl _) (by simp [maxLen]) | exact ViewsB.arr 3 rfl (by first | assumption | rfl | (simp; done)) (Nat.le_refl _) (by simp [maxLen]) | exact ViewsB.arr 4 rfl (by first | assumption | rfl | (simp; done)) (Nat.le_refl _) (by simp [maxLen]) | exact ViewsB.of_drop 1 (by assumption) | exact ViewsB.of_drop 2 (by assumption) | exact ViewsB.of_drop 3 (by assumption) | exact ViewsB.of_drop 4 (by assumption) | exact ViewsB.of_drop 5 (by assumption) | exact ViewsB.of_drop 6 (by assumption) | exact ViewsB.of_drop 7 (by assumption) | exact ViewsB.of_drop 8 (by assumption) | exact ViewsB.of_drop 9 (by assumption) | exact ViewsB.of_drop 10 (by assumption) | exact ViewsB.of_drop 11 (by assumption) | exact ViewsB.of_drop 12 (by assumption) | exact ViewsB.sub (by first | exact ViewsB.own 0 rfl | exact ViewsB.own 1 rfl | exact ViewsB.own 2 rfl | exact ViewsB.own 3 rfl | exact ViewsB.own 4 rfl | exact ViewsB.own 5 rfl | assumption | exact ViewsB.nil _ | exact ViewsB.arr 0 rfl (by first | assumption | rfl | (simp; done)) (Nat.le_refl _) (by simp [maxLen]) | exact ViewsB.arr 1 rfl (by first | assumption | rfl | (simp; done)) (Nat.le_refl _) (by simp [maxLen]) | exact ViewsB.arr 2 rfl (by first | assumption | rfl | (simp; done)) (Nat.le_refl _) (by simp [maxLen]) | exact ViewsB.arr 3 rfl (by first | assumption | rfl | (simp; done)) (Nat.le_refl _) (by simp [maxLen]) | exact ViewsB.arr 4 rfl (by first | assumption | rfl | (simp; done)) (Nat.le_refl _) (by simp [maxLen]) | exact ViewsB.of_drop 1 (by assumption) | exact ViewsB.of_drop 2 (by assumption) | exact ViewsB.of_drop 3 (by assumption) | exact ViewsB.of_drop 4 (by assumption) | exact ViewsB.of_drop 5 (by assumption) | exact ViewsB.of_drop 6 (by assumption) | exact ViewsB.of_drop 7 (by assumption) | exact ViewsB.of_drop 8 (by assumption) | exact ViewsB.of_drop 9 (by assumption) | exact ViewsB.of_drop 10 (by assumption) | exact ViewsB.of_drop 11 (by assumption) | exact ViewsB.of_drop 12 (by assumption)) (by omega) (by first | omega | (simp; done) | (simp; omega))) h.2) rfl ?_))
                          | (refine wl rfl (op_call h rfl K.go_disk_Disk_Crash (disk_Crash s _ _ _ _ _ _ 1 rfl (by first | assumption | exact Dk.OkN.ok' (by decide)) (by first | exact ViewsB.own 0 rfl | exact ViewsB.own 1 rfl | exact ViewsB.own 2 rfl | exact ViewsB.own 3 rfl | exact ViewsB.own 4 rfl | exact ViewsB.own 5 rfl | assumption | exact ViewsB.nil _ | exact ViewsB.arr 0 rfl (by first | assumption | rfl | (simp; done)) (Nat.le_refl _) (by simp [maxLen]) | exact ViewsB.arr 1 rfl (by first | assumption | rfl | (simp; done)) (Nat.le_refl _) (by simp [maxLen]) | exact ViewsB.arr 2 rfl (by first | assumption | rfl | (simp; done)) (Nat.le_refl _) (by simp [maxLen]) | exact ViewsB.arr 3 rfl (by first | assumption | rfl | (simp; done)) (Nat.le_refl _) (by simp [maxLen]) | exact ViewsB.arr 4 rfl (by first | assumption | rfl | (simp; done)) (Nat.le_refl _) (by simp [maxLen]) | exact ViewsB.of_drop 1 (by assumption) | exact ViewsB.of_drop 2 (by assumption) | exact ViewsB.of_drop 3 (by assumption) | exact ViewsB.of_drop 4 (by assumption) | exact ViewsB.of_drop 5 (by assumption) | exact ViewsB.of_drop 6 (by assumption) | exact ViewsB.of_drop 7 (by assumption) | exact ViewsB.of_drop 8 (by assumption) | exact ViewsB.of_drop 9 (by assumption) | exact ViewsB.of_drop 10 (by assumption) | exact ViewsB.of_drop 11 (by assumption) | exact ViewsB.of_drop 12 (by assumption) | exact ViewsB.sub (by first | exact ViewsB.own 0 rfl | exact ViewsB.own 1 rfl | exact ViewsB.own 2 rfl | exact ViewsB.own 3 rfl | exact ViewsB.own 4 rfl | exact ViewsB.own 5 rfl | assumption | exact ViewsB.nil _ | exact ViewsB.arr 0 rfl (by first | assumption | rfl | (simp; done)) (Nat.le_refl _) (by simp [maxLen]) | exact ViewsB.arr 1 rfl (by first | assumption | rfl | (simp; done)) (Nat.le_refl _) (by simp [maxLen]) | exact ViewsB.arr 2 rfl (by first | assumption | rfl | (simp; done)) (Nat.le_refl _) (by simp [maxLen]) | exact ViewsB.arr 3 rfl (by first | assumption | rfl | (simp; done)) (Nat.le_refl _) (by simp [maxLen]) | exact ViewsB.arr 4 rfl (by first | assumption | rfl | (simp; done)) (Nat.le_refl _) (by simp [maxLen]) | exact ViewsB.of_drop 1 (by assumption) | exact ViewsB.of_drop 2 (by assumption) | exact ViewsB.of_drop 3 (by assumption) | exact ViewsB.of_drop 4 (by assumption) | exact ViewsB.of_drop 5 (by assumption) | exact ViewsB.of_drop 6 (by assumption) | exact ViewsB.of_drop 7 (by assumption) | exact ViewsB.of_drop 8 (by assumption) | exact ViewsB.of_drop 9 (by assumption) | exact ViewsB.of_drop 10 (by assumption) | exact ViewsB.of_drop 11 (by assumption) | exact ViewsB.of_drop 12 (by assumption)) (by omega) (by first | omega | (simp; done) | (simp; omega))) h.2) rfl ?_))
                          | (refine wl rfl (op_call h rfl K.go_disk_Disk_Crash (disk_Crash s _ _ _ _ _ _ 2 rfl (by first | assumption | exact Dk.OkN.ok' (by decide)) (by first | exact ViewsB.own 0 rfl | exact ViewsB.own 1 rfl | exact ViewsB.own 2 rfl | exact ViewsB.own 3 rfl | exact ViewsB.own 4 rfl | exact ViewsB.own 5 rfl | assumption | exact ViewsB.nil _ | exact ViewsB.arr 0 rfl (by first | assumption | rfl | (simp; done)) (Nat.le_refl _) (by simp [maxLen]) | exact ViewsB.arr 1 rfl (by first | assumption | rfl | (simp; done)) (Nat.le_refl _) (by simp [maxLen]) | exact ViewsB.arr 2 rfl (by first | assumption | rfl | (simp; done)) (Nat.le_refl _) (by simp [maxLen]) | exact ViewsB.arr 3 rfl (by first | assumption | rfl | (simp; done)) (Nat.le_refl _) (by simp [maxLen]) | exact ViewsB.arr 4 rfl (by first | assumption | rfl | (simp; done)) (Nat.le_refl _) (by simp [maxLen]) | exact ViewsB.of_drop 1 (by assumption) | exact ViewsB.of_drop 2 (by assumption) | exact ViewsB.of_drop 3 (by assumption) | exact ViewsB.of_drop 4 (by assumption) | exact ViewsB.of_drop 5 (by assumption) | exact ViewsB.of_drop 6 (by assumption) | exact ViewsB.of_drop 7 (by assumption) | exact ViewsB.of_drop 8 (by assumption) | exact ViewsB.of_drop 9 (by assumption) | exact ViewsB.of_drop 10 (by assumption) | exact ViewsB.of_drop 11 (by assumption) | exact ViewsB.of_drop 12 (by assumption) | exact ViewsB.sub (by first | exact ViewsB.own 0 rfl | exact ViewsB.own 1 rfl | exact ViewsB.own 2 rfl | exact ViewsB.own 3 rfl | exact ViewsB.own 4 rfl | exact ViewsB.own 5 rfl | assumption | exact ViewsB.nil _ | exact ViewsB.arr 0 rfl (by first | assumption | rfl | (simp; done)) (Nat.le_refl _) (by simp [maxLen]) | exact ViewsB.arr 1 rfl (by first | assumption | rfl | (simp; done)) (Nat.le_refl _) (by simp [maxLen]) | exact ViewsB.arr 2 rfl (by first | assumption | rfl | (simp; done)) (Nat.le_refl _) (by simp [maxLen]) | exact ViewsB.arr 3 rfl (by first | assumption | rfl | (simp; done)) (Nat.le_refl _) (by simp [maxLen]) | exact ViewsB.arr 4 rfl (by first | assumption | rfl | (simp; done)) (Nat.le_refl _) (by simp [maxLen]) | exact ViewsB.of_drop 1 (by assumption) | exact ViewsB.of_drop 2 (by assumption) | exact ViewsB.of_drop 3 (by assumption) | exact ViewsB.of_drop 4 (by assumption) | exact ViewsB.of_drop 5 (by assumption) | exact ViewsB.of_drop 6 (by assumption) | exact ViewsB.of_drop 7 (by assumption) | exact ViewsB.of_drop 8 (by assumption) | exact ViewsB.of_drop 9 (by assumption) | exact ViewsB.of_drop 10 (by assumption) | exact ViewsB.of_drop 11 (by assumption) | exact ViewsB.of_drop 12 (by assumption)) (by omega) (by first | omega | (simp; done) | (simp; omega))) h.2) rfl ?_))
                          | (refine wl rfl (op_call h rfl K.go_disk_Disk_Crash (disk_Crash s _ _ _ _ _ _ 3 rfl (by first | assumption | exact Dk.OkN.ok' (by decide)) (by first | exact ViewsB.own 0 rfl | exact ViewsB.own 1 rfl | exact ViewsB.own 2 rfl | exact ViewsB.own 3 rfl | exact ViewsB.own 4 rfl | exact ViewsB.own 5 rfl | assumption | exact ViewsB.nil _ | exact ViewsB.arr 0 rfl (by first | assumption | rfl | (simp; done)) (Nat.le_refl _) (by simp [maxLen]) | exact ViewsB.arr 1 rfl (by first | assumption | rfl | (simp; done)) (Nat.le_refl _) (by simp [maxLen]) | exact ViewsB.arr 2 rfl (by first | assumption | rfl | (simp; done)) (Nat.le_refl _) (by simp [maxLen]) | exact ViewsB.arr 3 rfl (by first | assumption | rfl | (simp; done)) (Nat.le_refl _) (by simp [maxLen]) | exact ViewsB.arr 4 rfl (by first | assumption | rfl | (simp; done)) (Nat.le_refl _) (by simp [maxLen]) | exact ViewsB.of_drop 1 (by assumption) | exact ViewsB.of_drop 2 (by assumption) | exact ViewsB.of_drop 3 (by assumption) | exact ViewsB.of_drop 4 (by assumption) | exact ViewsB.of_drop 5 (by assumption) | exact ViewsB.of_drop 6 (by assumption) | exact ViewsB.of_drop 7 (by assumption) | exact ViewsB.of_drop 8 (by assumption) | exact ViewsB.of_drop 9 (by assumption) | exact ViewsB.of_drop 10 (by assumption) | exact ViewsB.of_drop 11 (by assumption) | exact ViewsB.of_drop 12 (by assumption) | exact ViewsB.sub (by first | exact ViewsB.own 0 rfl | exact ViewsB.own 1 rfl | exact ViewsB.own 2 rfl | exact ViewsB.own 3 rfl | exact ViewsB.own 4 rfl | exact ViewsB.own 5 rfl | assumption | exact ViewsB.nil _ | exact ViewsB.arr 0 rfl (by first | assumption | rfl | (simp; done)) (Nat.le_refl _) (by simp [maxLen]) | exact ViewsB.arr 1 rfl (by first | assumption | rfl | (simp; done)) (Nat.le_refl _) (by simp [maxLen]) | exact ViewsB.arr 2 rfl (by first | assumption | rfl | (simp; done)) (Nat.le_refl _) (by simp [maxLen]) | exact ViewsB.arr 3 rfl (by first | assumption | rfl | (simp; done)) (Nat.le_refl _) (by simp [maxLen]) | exact ViewsB.arr 4 rfl (by first | assumption | rfl | (simp; done)) (Nat.le_refl _) (by simp [maxLen]) | exact ViewsB.of_drop 1 (by assumption) | exact ViewsB.of_drop 2 (by assumption) | exact ViewsB.of_drop 3 (by assumption) | exact ViewsB.of_drop 4 (by assumption) | exact ViewsB.of_drop 5 (by assumption) | exact ViewsB.of_drop 6 (by assumption) | exact ViewsB.of_drop 7 (by assumption) | exact ViewsB.of_drop 8 (by assumption) | exact ViewsB.of_drop 9 (by assumption) | exact ViewsB.of_drop 10 (by assumption) | exact ViewsB.of_drop 11 (by assumption) | exact ViewsB.of_drop 12 (by assumption)) (by omega) (by first | omega | (simp; done) | (simp; omega))) h.2) rfl ?_))
                          | (refine wl rfl (op_call h rfl K.go_disk_Disk_Crash (disk_Crash s _ _ _ _ _ _ 4 rfl (by first | assumption | exact Dk.OkN.ok' (by decide)) (by first | exact ViewsB.own 0 rfl | exact ViewsB.own 1 rfl | exact ViewsB.own 2 rfl | exact ViewsB.own 3 rfl | exact ViewsB.own 4 rfl | exact ViewsB.own 5 rfl | assumption | exact ViewsB.nil _ | exact ViewsB.arr 0 rfl (by first | assumption | rfl | (simp; done)) (Nat.le_refl _) (by simp [maxLen]) | exact ViewsB.arr 1 rfl (by first | assumption | rfl | (simp; done)) (Nat.le_refl _) (by simp [maxLen]) | exact ViewsB.arr 2 rfl (by first | assumption | rfl | (simp; done)) (Nat.le_refl _) (by simp [maxLen]) | exact ViewsB.arr 3 rfl (by first | assumption | rfl | (simp; done)) (Nat.le_refl _) (by simp [maxLen]) | exact ViewsB.arr 4 rfl (by first | assumption | rfl | (simp; done)) (Nat.le_refl _) (by simp [maxLen]) | exact ViewsB.of_drop 1 (by assumption) | exact ViewsB.of_drop 2 (by assumption) | exact ViewsB.of_drop 3 (by assumption) | exact ViewsB.of_drop 4 (by assumption) | exact ViewsB.of_drop 5 (by assumption) | exact ViewsB.of_drop 6 (by assumption) | exact ViewsB.of_drop 7 (by assumption) | exact ViewsB.of_drop 8 (by assumption) | exact ViewsB.of_drop 9 (by assumption) | exact ViewsB.of_drop 10 (by assumption) | exact ViewsB.of_drop 11 (by assumption) | exact ViewsB.of_drop 12 (by assumption) | exact ViewsB.sub (by first | exact ViewsB.own 0 rfl | exact ViewsB.own 1 rfl | exact ViewsB.own 2 rfl | exact ViewsB.own 3 rfl | exact ViewsB.own 4 rfl | exact ViewsB.own 5 rfl | assumption | exact ViewsB.nil _ | exact ViewsB.arr 0 rfl (by first | assumption | rfl | (simp; done)) (Nat.le_refl _) (by simp [maxLen]) | exact ViewsB.arr 1 rfl (by first | assumption | rfl | (simp; done)) (Nat.le_refl _) (by simp [maxLen]) | exact ViewsB.arr 2 rfl (by first | assumption | rfl | (simp; done)) (Nat.le_refl _) (by simp [maxLen]) | exact ViewsB.arr 3 rfl (by first | assumption | rfl | (simp; done)) (Nat.le_refl _) (by simp [maxLen]) | exact ViewsB.arr 4 rfl (by first | assumption | rfl | (simp; done)) (Nat.le_refl _) (by simp [maxLen]) | exact ViewsB.of_drop 1 (by assumption) | exact ViewsB.of_drop 2 (by assumption) | exact ViewsB.of_drop 3 (by assumption) | exact ViewsB.of_drop 4 (by assumption) | exact ViewsB.of_drop 5 (by assumption) | exact ViewsB.of_drop 6 (by assumption) | exact ViewsB.of_drop 7 (by assumption) | exact ViewsB.of_drop 8 (by assumption) | exact ViewsB.of_drop 9 (by assumption) | exact ViewsB.of_drop 10 (by assumption) | exact ViewsB.of_drop 11 (by assumption) | exact ViewsB.of_drop 12 (by assumption)) (by omega) (by first | omega | (simp; done) | (simp; omega))) h.2) rfl ?_))
                          | (refine wl rfl (op_call h rfl K.go_disk_Disk_Crash (disk_Crash s _ _ _ _ _ _ 5 rfl (by first | assumption | exact Dk.OkN.ok' (by decide)) (by first | exact ViewsB.own 0 rfl | exact ViewsB.own 1 rfl | exact ViewsB.own 2 rfl | exact ViewsB.own 3 rfl | exact ViewsB.own 4 rfl | exact ViewsB.own 5 rfl | assumption | exact ViewsB.nil _ | exact ViewsB.arr 0 rfl (by first | assumption | rfl | (simp; done)) (Nat.le_refl _) (by simp [maxLen]) | exact ViewsB.arr 1 rfl (by first | assumption | rfl | (simp; done)) (Nat.le_refl _) (by simp [maxLen]) | exact ViewsB.arr 2 rfl (by first | assumption | rfl | (simp; done)) (Nat.le_refl _) (by simp [maxLen]) | exact ViewsB.arr 3 rfl (by first | assumption | rfl | (simp; done)) (Nat.le_refl _) (by simp [maxLen]) | exact ViewsB.arr 4 rfl (by first | assumption | rfl | (simp; done)) (Nat.le_refl _) (by simp [maxLen]) | exact ViewsB.of_drop 1 (by assumption) | exact ViewsB.of_drop 2 (by assumption) | exact ViewsB.of_drop 3 (by assumption) | exact ViewsB.of_drop 4 (by assumption) | exact ViewsB.of_drop 5 (by assumption) | exact ViewsB.of_drop 6 (by assumption) | exact ViewsB.of_drop 7 (by assumption) | exact ViewsB.of_drop 8 (by assumption) | exact ViewsB.of_drop 9 (by assumption) | exact ViewsB.of_drop 10 (by assumption) | exact ViewsB.of_drop 11 (by assumption) | exact ViewsB.of_drop 12 (by assumption) | exact ViewsB.sub (by first | exact ViewsB.own 0 rfl | exact ViewsB.own 1 rfl | exact ViewsB.own 2 rfl | exact ViewsB.own 3 rfl | exact ViewsB.own 4 rfl | exact ViewsB.own 5 rfl | assumption | exact ViewsB.nil _ | exact ViewsB.arr 0 rfl (by first | assumption | rfl | (simp; done)) (Nat.le_refl _) (by simp [maxLen]) | exact ViewsB.arr 1 rfl (by first | assumption | rfl | (simp; done)) (Nat.le_refl _) (by simp [maxLen]) | exact ViewsB.arr 2 rfl (by first | assumption | rfl | (simp; done)) (Nat.le_refl _) (by simp [maxLen]) | exact ViewsB.arr 3 rfl (by first | assumption | rfl | (simp; done)) (Nat.le_refl _) (by simp [maxLen]) | exact ViewsB.arr 4 rfl (by first | assumption | rfl | (simp; done)) (Nat.le_refl _) (by simp [maxLen]) | exact ViewsB.of_drop 1 (by assumption) | exact ViewsB.of_drop 2 (by assumption) | exact ViewsB.of_drop 3 (by assumption) | exact ViewsB.of_drop 4 (by assumption) | exact ViewsB.of_drop 5 (by assumption) | exact ViewsB.of_drop 6 (by assumption) | exact ViewsB.of_drop 7 (by assumption) | exact ViewsB.of_drop 8 (by assumption) | exact ViewsB.of_drop 9 (by assumption) | exact ViewsB.of_drop 10 (by assumption) | exact ViewsB.of_drop 11 (by assumption) | exact ViewsB.of_drop 12 (by assumption)) (by omega) (by first | omega | (simp; done) | (simp; omega))) h.2) rfl ?_))
             clear h a w; intro x a w hx h
             (try simp only [List.set_cons_zero, List.set_cons_succ] at h)
             refine wnil (c_then ?_)
             refine c_seq ?_
             refine c_seq (c_region ?_)
             refine wv h (r_assign h rfl) rfl ?_
             clear h a w; intro a w h
             refine wnil (c_then ?_)
             refine c_block ?_
             refine c_loopX h (X := Nat × List Value) (fun x => [(1, av), (5, .int .i64 (i : Int)), (6, dp b), (7, vs), (9, va), (10, vw), (13, .int .i64 D.acts), (14, .int .i64 (m : Int)), (15, .pointer (some ⟨b15, 0, none⟩)), (18, .int .i64 (x.1 : Int))])
               (fun x => Blk b15 (.cells ⟨cellsDA A⟩ t_interleaflaw04_Act) :: DiskI b (D.crash A.p) :: OwnL id vs x.2 :: OwnL (Value.int .i64) va (wetI D) :: OwnL id vw U :: (G ++ F)) (fun x => x.1 ≤ D.wet.length ∧ SafeV (G ++ F) x.2 (Dk.keepL (Dk.bit A.p) 0 (D.wet.take x.1) D.safe)) (fun x => D.wet.length - x.1) (0, T) (h.keep [1, 5, 6, 7, 9, 10, 13, 14, 15, 18])
               ⟨Nat.zero_le _, hsv⟩ ?_
             clear h a w; intro x a w hx h
             obtain ⟨j, T2⟩ := x
             obtain ⟨hy1, hy3⟩ := hx
             dsimp only at hy1 hy3 h
             as_aux_lemma =>
              refine c_seq ?_
              refine c_seq (c_region ?_)
              refine wv h (r_move h rfl) rfl ?_
              clear h a w; intro a w h
              refine wv h (r_move h rfl) rfl ?_
              clear h a w; intro a w h
              refine wv h (r_lenV h rfl K.u_S_int (by first | exact Views.own 0 rfl | exact Views.own 1 rfl | exact Views.own 2 rfl | exact Views.own 3 rfl | exact Views.own 4 rfl | exact Views.own 5 rfl | assumption | exact Views.of_drop 1 (by assumption) | exact Views.of_drop 2 (by assumption) | exact Views.of_drop 3 (by assumption) | exact Views.of_drop 4 (by assumption) | exact Views.of_drop 5 (by assumption) | exact Views.of_drop 6 (by assumption) | exact Views.of_drop 7 (by assumption) | exact Views.of_drop 8 (by assumption) | exact Views.of_drop 9 (by assumption) | exact Views.of_drop 10 (by assumption) | exact Views.of_drop 11 (by assumption) | exact Views.of_drop 12 (by assumption))) rfl ?_
              clear h a w; intro a w h
              refine wv h (r_bin h rfl rfl (B.lss_int)) rfl ?_
              clear h a w; intro a w h
              refine wnil (c_then ?_)
              first
               | refine c_condD h rfl (fun ht15 => ?_) (fun ht15 => ?_)
               | refine c_condP h rfl (by first | (simp only [Bool.and_eq_true, Bool.or_eq_true, Bool.not_eq_true', decide_eq_true_eq, decide_eq_false_iff_not, ne_eq, Bool.not_eq_eq_eq_not, Bool.not_true, beq_iff_eq, bne_iff_ne]; exact Iff.rfl) | exact Iff.rfl) (fun ht15 => ?_) (fun ht15 => ?_)
              ·
               obtain ⟨q, hq⟩ := cellsW_get (l := D.wet) (i := j) (by omega)
               have hql := hd1 q (List.mem_of_getElem? hq)
               have hTl : T2.length = i := by rw [hy3.1, Dk.keepL_len, hsl]
               obtain ⟨u, hu⟩ : ∃ u, U[j]? = some u := ⟨U[j]'(by omega), by simp⟩
               have huv := hwv j u q hu hq
               have hmod : 0 < A.p.length → j / 8 % A.p.length < A.p.length := fun q => Nat.mod_lt _ q
               have e1 : ((j : Int) % 8).toNat = j % 8 := by omega
               refine c_skip ?_
               refine c_then ?_
               refine c_seq ?_
               refine c_block ?_
               refine c_seq (c_draw K.mixed (by kernel_rfl) h ?_)
               clear h a w; intro a hE
               first
                              | (refine qv hE (fun w hw => r_fieldAddr ⟨hE, hw⟩ 2 rfl K.u_interleaflaw04_Act rfl K.sz_S_uint8 rfl rfl) rfl ?_)
                              | (refine qv hE (fun w hw => op_fieldC ⟨hE, hw⟩ 2 rfl K.u_interleaflaw04_Act rfl K.sz_S_uint8 rfl rfl (by assumption) rfl) rfl ?_)
               clear hE a; intro a hE
               first
                              | (refine qv hE (fun w hw => r_ldN ⟨hE, hw⟩ rfl K.u_S_uint8 rfl 0 rfl rfl) rfl ?_)
                              | (refine qv hE (fun w hw => r_ldN ⟨hE, hw⟩ rfl K.u_S_uint8 rfl 1 rfl rfl) rfl ?_)
                              | (refine qv hE (fun w hw => r_ldN ⟨hE, hw⟩ rfl K.u_S_uint8 rfl 2 rfl rfl) rfl ?_)
                              | (refine qv hE (fun w hw => r_ldN ⟨hE, hw⟩ rfl K.u_S_uint8 rfl 3 rfl rfl) rfl ?_)
                              | (refine qv hE (fun w hw => r_ldN ⟨hE, hw⟩ rfl K.u_S_uint8 rfl 4 rfl rfl) rfl ?_)
                              | (refine qv hE (fun w hw => r_ldN ⟨hE, hw⟩ rfl K.u_S_uint8 rfl 5 rfl rfl) rfl ?_)
                              | (refine qv hE (fun w hw => r_ldN ⟨hE, hw⟩ rfl K.u_S_uint8 rfl 6 rfl rfl) rfl ?_)
                              | (refine qv hE (fun w hw => r_ldC (o := 2) ⟨hE, hw⟩ rfl K.u_S_uint8 rfl 0 rfl) rfl ?_)
                              | (refine qv hE (fun w hw => r_ldC (o := 2) ⟨hE, hw⟩ rfl K.u_S_uint8 rfl 1 rfl) rfl ?_)
                              | (refine qv hE (fun w hw => r_ldC (o := 2) ⟨hE, hw⟩ rfl K.u_S_uint8 rfl 2 rfl) rfl ?_)
                              | (refine qv hE (fun w hw => r_ldC (o := 2) ⟨hE, hw⟩ rfl K.u_S_uint8 rfl 3 rfl) rfl ?_)
                              | (refine qv hE (fun w hw => r_ldC (o := 2) ⟨hE, hw⟩ rfl K.u_S_uint8 rfl 4 rfl) rfl ?_)
                              | (refine qv hE (fun w hw => r_ldC (o := 2) ⟨hE, hw⟩ rfl K.u_S_uint8 rfl 5 rfl) rfl ?_)
                              | (refine qv hE (fun w hw => r_ldC (o := 2) ⟨hE, hw⟩ rfl K.u_S_uint8 rfl 6 rfl) rfl ?_)
                              | (refine qv hE (fun w hw => r_load ⟨hE, hw⟩ rfl K.u_S_uint8 rfl 0 rfl rfl) rfl ?_)
                              | (refine qv hE (fun w hw => r_load ⟨hE, hw⟩ rfl K.u_S_uint8 rfl 1 rfl rfl) rfl ?_)
                              | (refine qv hE (fun w hw => r_load ⟨hE, hw⟩ rfl K.u_S_uint8 rfl 2 rfl rfl) rfl ?_)
                              | (refine qv hE (fun w hw => r_load ⟨hE, hw⟩ rfl K.u_S_uint8 rfl 3 rfl rfl) rfl ?_)
                              | (refine qv hE (fun w hw => r_load ⟨hE, hw⟩ rfl K.u_S_uint8 rfl 4 rfl rfl) rfl ?_)
                              | (refine qv hE (fun w hw => r_load ⟨hE, hw⟩ rfl K.u_S_uint8 rfl 5 rfl rfl) rfl ?_)
                              | (refine qv hE (fun w hw => r_load1 ⟨hE, hw⟩ rfl K.u_S_uint8 rfl (by assumption)) rfl ?_)
               clear hE a; intro a hE
               refine qv hE (fun w hw => r_lenB ⟨hE, hw⟩ rfl K.u_S_uint8 (by first | exact ViewsB.own 0 rfl | exact ViewsB.own 1 rfl | exact ViewsB.own 2 rfl | exact ViewsB.own 3 rfl | exact ViewsB.own 4 rfl | exact ViewsB.own 5 rfl | assumption | exact ViewsB.nil _ | exact ViewsB.arr 0 rfl (by first | assumption | rfl | (simp; done)) (Nat.le_refl _) (by simp [maxLen]) | exact ViewsB.arr 1 rfl (by first | assumption | rfl | (simp; done)) (Nat.le_refl _) (by simp [maxLen]) | exact ViewsB.arr 2 rfl (by first | assumption | rfl | (simp; done)) (Nat.le_refl _) (by simp [maxLen]) | exact ViewsB.arr 3 rfl (by first | assumption | rfl | (simp; done)) (Nat.le_refl _) (by simp [maxLen]) | exact ViewsB.arr 4 rfl (by first | assumption | rfl | (simp; done)) (Nat.le_refl _) (by simp [maxLen]) | exact ViewsB.of_drop 1 (by assumption) | exact ViewsB.of_drop 2 (by assumption) | exact ViewsB.of_drop 3 (by assumption) | exact ViewsB.of_drop 4 (by assumption) | exact ViewsB.of_drop 5 (by assumption) | exact ViewsB.of_drop 6 (by assumption) | exact ViewsB.of_drop 7 (by assumption) | exact ViewsB.of_drop 8 (by assumption) | exact ViewsB.of_drop 9 (by assumption) | exact ViewsB.of_drop 10 (by assumption) | exact ViewsB.of_drop 11 (by assumption) | exact ViewsB.of_drop 12 (by assumption) | exact ViewsB.sub (by first | exact ViewsB.own 0 rfl | exact ViewsB.own 1 rfl | exact ViewsB.own 2 rfl | exact ViewsB.own 3 rfl | exact ViewsB.own 4 rfl | exact ViewsB.own 5 rfl | assumption | exact ViewsB.nil _ | exact ViewsB.arr 0 rfl (by first | assumption | rfl | (simp; done)) (Nat.le_refl _) (by simp [maxLen]) | exact ViewsB.arr 1 rfl (by first | assumption | rfl | (simp; done)) (Nat.le_refl _) (by simp [maxLen]) | exact ViewsB.arr 2 rfl (by first | assumption | rfl | (simp; done)) (Nat.le_refl _) (by simp [maxLen]) | exact ViewsB.arr 3 rfl (by first | assumption | rfl | (simp; done)) (Nat.le_refl _) (by simp [maxLen]) | exact ViewsB.arr 4 rfl (by first | assumption | rfl | (simp; done)) (Nat.le_refl _) (by simp [maxLen]) | exact ViewsB.of_drop 1 (by assumption) | exact ViewsB.of_drop 2 (by assumption) | exact ViewsB.of_drop 3 (by assumption) | exact ViewsB.of_drop 4 (by assumption) | exact ViewsB.of_drop 5 (by assumption) | exact ViewsB.of_drop 6 (by assumption) | exact ViewsB.of_drop 7 (by assumption) | exact ViewsB.of_drop 8 (by assumption) | exact ViewsB.of_drop 9 (by assumption) | exact ViewsB.of_drop 10 (by assumption) | exact ViewsB.of_drop 11 (by assumption) | exact ViewsB.of_drop 12 (by assumption)) (by omega) (by first | omega | (simp; done) | (simp; omega)))) rfl ?_
               clear hE a; intro a hE
               refine qv hE (fun w hw => r_bin ⟨hE, hw⟩ rfl rfl (B.gtr_int)) rfl ?_
               clear hE a; intro a hE
               refine qv hE (fun w hw => r_move ⟨hE, hw⟩ rfl) rfl ?_
               clear hE a; intro a hE
               refine qvG hE (by first | exact .t rfl | exact .f rfl | exact .gt rfl | exact .gf rfl) (fun hg w hw => by (try simp only [↓gval_on hg, ↓gval_and hg] at hE); (have hg2 := hg; (try simp only [Bool.and_eq_true, Bool.or_eq_true, Bool.not_eq_true', decide_eq_true_eq, decide_eq_false_iff_not] at hg2)); first | exact r_fieldAddr ⟨hE, hw⟩ 2 rfl K.u_interleaflaw04_Act rfl K.sz_S_uint8 rfl rfl | exact op_fieldC ⟨hE, hw⟩ 2 rfl K.u_interleaflaw04_Act rfl K.sz_S_uint8 rfl rfl (by assumption) rfl) rfl ?_
               clear hE a; intro a hE
               refine qvG hE (by first | exact .t rfl | exact .f rfl | exact .gt rfl | exact .gf rfl) (fun hg w hw => by (try simp only [↓gval_on hg, ↓gval_and hg] at hE); (have hg2 := hg; (try simp only [Bool.and_eq_true, Bool.or_eq_true, Bool.not_eq_true', decide_eq_true_eq, decide_eq_false_iff_not] at hg2)); first | exact r_ldN ⟨hE, hw⟩ rfl K.u_S_uint8 rfl 0 rfl rfl | exact r_ldN ⟨hE, hw⟩ rfl K.u_S_uint8 rfl 1 rfl rfl | exact r_ldN ⟨hE, hw⟩ rfl K.u_S_uint8 rfl 2 rfl rfl | exact r_ldN ⟨hE, hw⟩ rfl K.u_S_uint8 rfl 3 rfl rfl | exact r_ldN ⟨hE, hw⟩ rfl K.u_S_uint8 rfl 4 rfl rfl | exact r_ldN ⟨hE, hw⟩ rfl K.u_S_uint8 rfl 5 rfl rfl | exact r_ldN ⟨hE, hw⟩ rfl K.u_S_uint8 rfl 6 rfl rfl | exact r_ldC (o := 2) ⟨hE, hw⟩ rfl K.u_S_uint8 rfl 0 rfl | exact r_ldC (o := 2) ⟨hE, hw⟩ rfl K.u_S_uint8 rfl 1 rfl | exact r_ldC (o := 2) ⟨hE, hw⟩ rfl K.u_S_uint8 rfl 2 rfl | exact r_ldC (o := 2) ⟨hE, hw⟩ rfl K.u_S_uint8 rfl 3 rfl | exact r_ldC (o := 2) ⟨hE, hw⟩ rfl K.u_S_uint8 rfl 4 rfl | exact r_ldC (o := 2) ⟨hE, hw⟩ rfl K.u_S_uint8 rfl 5 rfl | exact r_ldC (o := 2) ⟨hE, hw⟩ rfl K.u_S_uint8 rfl 6 rfl | exact r_load ⟨hE, hw⟩ rfl K.u_S_uint8 rfl 0 rfl rfl | exact r_load ⟨hE, hw⟩ rfl K.u_S_uint8 rfl 1 rfl rfl | exact r_load ⟨hE, hw⟩ rfl K.u_S_uint8 rfl 2 rfl rfl | exact r_load ⟨hE, hw⟩ rfl K.u_S_uint8 rfl 3 rfl rfl | exact r_load ⟨hE, hw⟩ rfl K.u_S_uint8 rfl 4 rfl rfl | exact r_load ⟨hE, hw⟩ rfl K.u_S_uint8 rfl 5 rfl rfl | exact r_load1 ⟨hE, hw⟩ rfl K.u_S_uint8 rfl (by assumption)) rfl ?_
               clear hE a; intro a hE
               refine qvG hE (by first | exact .t rfl | exact .f rfl | exact .gt rfl | exact .gf rfl) (fun hg w hw => by (try simp only [↓gval_on hg, ↓gval_and hg] at hE); (have hg2 := hg; (try simp only [Bool.and_eq_true, Bool.or_eq_true, Bool.not_eq_true', decide_eq_true_eq, decide_eq_false_iff_not] at hg2)); first | exact r_move ⟨hE, hw⟩ rfl) rfl ?_
               clear hE a; intro a hE
               refine qvG hE (by first | exact .t rfl | exact .f rfl | exact .gt rfl | exact .gf rfl) (fun hg w hw => by (try simp only [↓gval_on hg, ↓gval_and hg] at hE); (have hg2 := hg; (try simp only [Bool.and_eq_true, Bool.or_eq_true, Bool.not_eq_true', decide_eq_true_eq, decide_eq_false_iff_not] at hg2)); first | exact r_bin ⟨hE, hw⟩ rfl rfl (B.quo_i64 (by omega) (by omega) (by omega))) rfl ?_
               clear hE a; intro a hE
               refine qvG hE (by first | exact .t rfl | exact .f rfl | exact .gt rfl | exact .gf rfl) (fun hg w hw => by (try simp only [↓gval_on hg, ↓gval_and hg] at hE); (have hg2 := hg; (try simp only [Bool.and_eq_true, Bool.or_eq_true, Bool.not_eq_true', decide_eq_true_eq, decide_eq_false_iff_not] at hg2)); first | exact r_fieldAddr ⟨hE, hw⟩ 2 rfl K.u_interleaflaw04_Act rfl K.sz_S_uint8 rfl rfl | exact op_fieldC ⟨hE, hw⟩ 2 rfl K.u_interleaflaw04_Act rfl K.sz_S_uint8 rfl rfl (by assumption) rfl) rfl ?_
               clear hE a; intro a hE
               refine qvG hE (by first | exact .t rfl | exact .f rfl | exact .gt rfl | exact .gf rfl) (fun hg w hw => by (try simp only [↓gval_on hg, ↓gval_and hg] at hE); (have hg2 := hg; (try simp only [Bool.and_eq_true, Bool.or_eq_true, Bool.not_eq_true', decide_eq_true_eq, decide_eq_false_iff_not] at hg2)); first | exact r_ldN ⟨hE, hw⟩ rfl K.u_S_uint8 rfl 0 rfl rfl | exact r_ldN ⟨hE, hw⟩ rfl K.u_S_uint8 rfl 1 rfl rfl | exact r_ldN ⟨hE, hw⟩ rfl K.u_S_uint8 rfl 2 rfl rfl | exact r_ldN ⟨hE, hw⟩ rfl K.u_S_uint8 rfl 3 rfl rfl | exact r_ldN ⟨hE, hw⟩ rfl K.u_S_uint8 rfl 4 rfl rfl | exact r_ldN ⟨hE, hw⟩ rfl K.u_S_uint8 rfl 5 rfl rfl | exact r_ldN ⟨hE, hw⟩ rfl K.u_S_uint8 rfl 6 rfl rfl | exact r_ldC (o := 2) ⟨hE, hw⟩ rfl K.u_S_uint8 rfl 0 rfl | exact r_ldC (o := 2) ⟨hE, hw⟩ rfl K.u_S_uint8 rfl 1 rfl | exact r_ldC (o := 2) ⟨hE, hw⟩ rfl K.u_S_uint8 rfl 2 rfl | exact r_ldC (o := 2) ⟨hE, hw⟩ rfl K.u_S_uint8 rfl 3 rfl | exact r_ldC (o := 2) ⟨hE, hw⟩ rfl K.u_S_uint8 rfl 4 rfl | exact r_ldC (o := 2) ⟨hE, hw⟩ rfl K.u_S_uint8 rfl 5 rfl | exact r_ldC (o := 2) ⟨hE, hw⟩ rfl K.u_S_uint8 rfl 6 rfl | exact r_load ⟨hE, hw⟩ rfl K.u_S_uint8 rfl 0 rfl rfl | exact r_load ⟨hE, hw⟩ rfl K.u_S_uint8 rfl 1 rfl rfl | exact r_load ⟨hE, hw⟩ rfl K.u_S_uint8 rfl 2 rfl rfl | exact r_load ⟨hE, hw⟩ rfl K.u_S_uint8 rfl 3 rfl rfl | exact r_load ⟨hE, hw⟩ rfl K.u_S_uint8 rfl 4 rfl rfl | exact r_load ⟨hE, hw⟩ rfl K.u_S_uint8 rfl 5 rfl rfl | exact r_load1 ⟨hE, hw⟩ rfl K.u_S_uint8 rfl (by assumption)) rfl ?_
               clear hE a; intro a hE
               refine qvG hE (by first | exact .t rfl | exact .f rfl | exact .gt rfl | exact .gf rfl) (fun hg w hw => by (try simp only [↓gval_on hg, ↓gval_and hg] at hE); (have hg2 := hg; (try simp only [Bool.and_eq_true, Bool.or_eq_true, Bool.not_eq_true', decide_eq_true_eq, decide_eq_false_iff_not] at hg2)); first | exact r_lenB ⟨hE, hw⟩ rfl K.u_S_uint8 (by first | exact ViewsB.own 0 rfl | exact ViewsB.own 1 rfl | exact ViewsB.own 2 rfl | exact ViewsB.own 3 rfl | exact ViewsB.own 4 rfl | exact ViewsB.own 5 rfl | assumption | exact ViewsB.nil _ | exact ViewsB.arr 0 rfl (by first | assumption | rfl | (simp; done)) (Nat.le_refl _) (by simp [maxLen]) | exact ViewsB.arr 1 rfl (by first | assumption | rfl | (simp; done)) (Nat.le_refl _) (by simp [maxLen]) | exact ViewsB.arr 2 rfl (by first | assumption | rfl | (simp; done)) (Nat.le_refl _) (by simp [maxLen]) | exact ViewsB.arr 3 rfl (by first | assumption | rfl | (simp; done)) (Nat.le_refl _) (by simp [maxLen]) | exact ViewsB.arr 4 rfl (by first | assumption | rfl | (simp; done)) (Nat.le_refl _) (by simp [maxLen]) | exact ViewsB.of_drop 1 (by assumption) | exact ViewsB.of_drop 2 (by assumption) | exact ViewsB.of_drop 3 (by assumption) | exact ViewsB.of_drop 4 (by assumption) | exact ViewsB.of_drop 5 (by assumption) | exact ViewsB.of_drop 6 (by assumption) | exact ViewsB.of_drop 7 (by assumption) | exact ViewsB.of_drop 8 (by assumption) | exact ViewsB.of_drop 9 (by assumption) | exact ViewsB.of_drop 10 (by assumption) | exact ViewsB.of_drop 11 (by assumption) | exact ViewsB.of_drop 12 (by assumption) | exact ViewsB.sub (by first | exact ViewsB.own 0 rfl | exact ViewsB.own 1 rfl | exact ViewsB.own 2 rfl | exact ViewsB.own 3 rfl | exact ViewsB.own 4 rfl | exact ViewsB.own 5 rfl | assumption | exact ViewsB.nil _ | exact ViewsB.arr 0 rfl (by first | assumption | rfl | (simp; done)) (Nat.le_refl _) (by simp [maxLen]) | exact ViewsB.arr 1 rfl (by first | assumption | rfl | (simp; done)) (Nat.le_refl _) (by simp [maxLen]) | exact ViewsB.arr 2 rfl (by first | assumption | rfl | (simp; done)) (Nat.le_refl _) (by simp [maxLen]) | exact ViewsB.arr 3 rfl (by first | assumption | rfl | (simp; done)) (Nat.le_refl _) (by simp [maxLen]) | exact ViewsB.arr 4 rfl (by first | assumption | rfl | (simp; done)) (Nat.le_refl _) (by simp [maxLen]) | exact ViewsB.of_drop 1 (by assumption) | exact ViewsB.of_drop 2 (by assumption) | exact ViewsB.of_drop 3 (by assumption) | exact ViewsB.of_drop 4 (by assumption) | exact ViewsB.of_drop 5 (by assumption) | exact ViewsB.of_drop 6 (by assumption) | exact ViewsB.of_drop 7 (by assumption) | exact ViewsB.of_drop 8 (by assumption) | exact ViewsB.of_drop 9 (by assumption) | exact ViewsB.of_drop 10 (by assumption) | exact ViewsB.of_drop 11 (by assumption) | exact ViewsB.of_drop 12 (by assumption)) (by omega) (by first | omega | (simp; done) | (simp; omega)))) rfl ?_
               clear hE a; intro a hE
               refine qvG hE (by first | exact .t rfl | exact .f rfl | exact .gt rfl | exact .gf rfl) (fun hg w hw => by (try simp only [↓gval_on hg, ↓gval_and hg] at hE); (have hg2 := hg; (try simp only [Bool.and_eq_true, Bool.or_eq_true, Bool.not_eq_true', decide_eq_true_eq, decide_eq_false_iff_not] at hg2)); first | exact r_bin ⟨hE, hw⟩ rfl rfl (B.rem_i64 (by omega) (by omega))) rfl ?_
               clear hE a; intro a hE
               refine qvG hE (by first | exact .t rfl | exact .f rfl | exact .gt rfl | exact .gf rfl) (fun hg w hw => by (try simp only [↓gval_on hg, ↓gval_and hg] at hE); (have hg2 := hg; (try simp only [Bool.and_eq_true, Bool.or_eq_true, Bool.not_eq_true', decide_eq_true_eq, decide_eq_false_iff_not] at hg2)); first | exact r_elP ⟨hE, hw⟩ rfl rfl K.u_S_uint8 K.sz_uint8 (by first | exact ViewsB.own 0 rfl | exact ViewsB.own 1 rfl | exact ViewsB.own 2 rfl | exact ViewsB.own 3 rfl | exact ViewsB.own 4 rfl | exact ViewsB.own 5 rfl | assumption | exact ViewsB.nil _ | exact ViewsB.arr 0 rfl (by first | assumption | rfl | (simp; done)) (Nat.le_refl _) (by simp [maxLen]) | exact ViewsB.arr 1 rfl (by first | assumption | rfl | (simp; done)) (Nat.le_refl _) (by simp [maxLen]) | exact ViewsB.arr 2 rfl (by first | assumption | rfl | (simp; done)) (Nat.le_refl _) (by simp [maxLen]) | exact ViewsB.arr 3 rfl (by first | assumption | rfl | (simp; done)) (Nat.le_refl _) (by simp [maxLen]) | exact ViewsB.arr 4 rfl (by first | assumption | rfl | (simp; done)) (Nat.le_refl _) (by simp [maxLen]) | exact ViewsB.of_drop 1 (by assumption) | exact ViewsB.of_drop 2 (by assumption) | exact ViewsB.of_drop 3 (by assumption) | exact ViewsB.of_drop 4 (by assumption) | exact ViewsB.of_drop 5 (by assumption) | exact ViewsB.of_drop 6 (by assumption) | exact ViewsB.of_drop 7 (by assumption) | exact ViewsB.of_drop 8 (by assumption) | exact ViewsB.of_drop 9 (by assumption) | exact ViewsB.of_drop 10 (by assumption) | exact ViewsB.of_drop 11 (by assumption) | exact ViewsB.of_drop 12 (by assumption) | exact ViewsB.sub (by first | exact ViewsB.own 0 rfl | exact ViewsB.own 1 rfl | exact ViewsB.own 2 rfl | exact ViewsB.own 3 rfl | exact ViewsB.own 4 rfl | exact ViewsB.own 5 rfl | assumption | exact ViewsB.nil _ | exact ViewsB.arr 0 rfl (by first | assumption | rfl | (simp; done)) (Nat.le_refl _) (by simp [maxLen]) | exact ViewsB.arr 1 rfl (by first | assumption | rfl | (simp; done)) (Nat.le_refl _) (by simp [maxLen]) | exact ViewsB.arr 2 rfl (by first | assumption | rfl | (simp; done)) (Nat.le_refl _) (by simp [maxLen]) | exact ViewsB.arr 3 rfl (by first | assumption | rfl | (simp; done)) (Nat.le_refl _) (by simp [maxLen]) | exact ViewsB.arr 4 rfl (by first | assumption | rfl | (simp; done)) (Nat.le_refl _) (by simp [maxLen]) | exact ViewsB.of_drop 1 (by assumption) | exact ViewsB.of_drop 2 (by assumption) | exact ViewsB.of_drop 3 (by assumption) | exact ViewsB.of_drop 4 (by assumption) | exact ViewsB.of_drop 5 (by assumption) | exact ViewsB.of_drop 6 (by assumption) | exact ViewsB.of_drop 7 (by assumption) | exact ViewsB.of_drop 8 (by assumption) | exact ViewsB.of_drop 9 (by assumption) | exact ViewsB.of_drop 10 (by assumption) | exact ViewsB.of_drop 11 (by assumption) | exact ViewsB.of_drop 12 (by assumption)) (by omega) (by first | omega | (simp; done) | (simp; omega))) (by first | omega | (simp; done)) (by first | omega | (simp only [List.length_cons, List.length_nil]; omega) | (simp; done) | (simp; omega))) rfl ?_
               clear hE a; intro a hE
               refine qvG hE (by first | exact .t rfl | exact .f rfl | exact .gt rfl | exact .gf rfl) (fun hg w hw => by (try simp only [↓gval_on hg, ↓gval_and hg] at hE); (have hg2 := hg; (try simp only [Bool.and_eq_true, Bool.or_eq_true, Bool.not_eq_true', decide_eq_true_eq, decide_eq_false_iff_not] at hg2)); first | exact r_elb ⟨hE, hw⟩ rfl K.u_uint8 rfl (by first | exact ViewsB.own 0 rfl | exact ViewsB.own 1 rfl | exact ViewsB.own 2 rfl | exact ViewsB.own 3 rfl | exact ViewsB.own 4 rfl | exact ViewsB.own 5 rfl | assumption | exact ViewsB.nil _ | exact ViewsB.arr 0 rfl (by first | assumption | rfl | (simp; done)) (Nat.le_refl _) (by simp [maxLen]) | exact ViewsB.arr 1 rfl (by first | assumption | rfl | (simp; done)) (Nat.le_refl _) (by simp [maxLen]) | exact ViewsB.arr 2 rfl (by first | assumption | rfl | (simp; done)) (Nat.le_refl _) (by simp [maxLen]) | exact ViewsB.arr 3 rfl (by first | assumption | rfl | (simp; done)) (Nat.le_refl _) (by simp [maxLen]) | exact ViewsB.arr 4 rfl (by first | assumption | rfl | (simp; done)) (Nat.le_refl _) (by simp [maxLen]) | exact ViewsB.of_drop 1 (by assumption) | exact ViewsB.of_drop 2 (by assumption) | exact ViewsB.of_drop 3 (by assumption) | exact ViewsB.of_drop 4 (by assumption) | exact ViewsB.of_drop 5 (by assumption) | exact ViewsB.of_drop 6 (by assumption) | exact ViewsB.of_drop 7 (by assumption) | exact ViewsB.of_drop 8 (by assumption) | exact ViewsB.of_drop 9 (by assumption) | exact ViewsB.of_drop 10 (by assumption) | exact ViewsB.of_drop 11 (by assumption) | exact ViewsB.of_drop 12 (by assumption) | exact ViewsB.sub (by first | exact ViewsB.own 0 rfl | exact ViewsB.own 1 rfl | exact ViewsB.own 2 rfl | exact ViewsB.own 3 rfl | exact ViewsB.own 4 rfl | exact ViewsB.own 5 rfl | assumption | exact ViewsB.nil _ | exact ViewsB.arr 0 rfl (by first | assumption | rfl | (simp; done)) (Nat.le_refl _) (by simp [maxLen]) | exact ViewsB.arr 1 rfl (by first | assumption | rfl | (simp; done)) (Nat.le_refl _) (by simp [maxLen]) | exact ViewsB.arr 2 rfl (by first | assumption | rfl | (simp; done)) (Nat.le_refl _) (by simp [maxLen]) | exact ViewsB.arr 3 rfl (by first | assumption | rfl | (simp; done)) (Nat.le_refl _) (by simp [maxLen]) | exact ViewsB.arr 4 rfl (by first | assumption | rfl | (simp; done)) (Nat.le_refl _) (by simp [maxLen]) | exact ViewsB.of_drop 1 (by assumption) | exact ViewsB.of_drop 2 (by assumption) | exact ViewsB.of_drop 3 (by assumption) | exact ViewsB.of_drop 4 (by assumption) | exact ViewsB.of_drop 5 (by assumption) | exact ViewsB.of_drop 6 (by assumption) | exact ViewsB.of_drop 7 (by assumption) | exact ViewsB.of_drop 8 (by assumption) | exact ViewsB.of_drop 9 (by assumption) | exact ViewsB.of_drop 10 (by assumption) | exact ViewsB.of_drop 11 (by assumption) | exact ViewsB.of_drop 12 (by assumption)) (by omega) (by first | omega | (simp; done) | (simp; omega))) (by first | omega | (simp only [List.length_cons, List.length_nil]; omega) | (simp; done) | (simp; omega))) rfl ?_
               clear hE a; intro a hE
               refine qvG hE (by first | exact .t rfl | exact .f rfl | exact .gt rfl | exact .gf rfl) (fun hg w hw => by (try simp only [↓gval_on hg, ↓gval_and hg] at hE); (have hg2 := hg; (try simp only [Bool.and_eq_true, Bool.or_eq_true, Bool.not_eq_true', decide_eq_true_eq, decide_eq_false_iff_not] at hg2)); first | exact r_move ⟨hE, hw⟩ rfl) rfl ?_
               clear hE a; intro a hE
               refine qvG hE (by first | exact .t rfl | exact .f rfl | exact .gt rfl | exact .gf rfl) (fun hg w hw => by (try simp only [↓gval_on hg, ↓gval_and hg] at hE); (have hg2 := hg; (try simp only [Bool.and_eq_true, Bool.or_eq_true, Bool.not_eq_true', decide_eq_true_eq, decide_eq_false_iff_not] at hg2)); first | exact r_bin ⟨hE, hw⟩ rfl rfl (B.rem_i64 (by omega) (by omega))) rfl ?_
               clear hE a; intro a hE
               refine qvG hE (by first | exact .t rfl | exact .f rfl | exact .gt rfl | exact .gf rfl) (fun hg w hw => by (try simp only [↓gval_on hg, ↓gval_and hg] at hE); (have hg2 := hg; (try simp only [Bool.and_eq_true, Bool.or_eq_true, Bool.not_eq_true', decide_eq_true_eq, decide_eq_false_iff_not] at hg2)); first | exact r_bin ⟨hE, hw⟩ rfl rfl (B.shr_u8 (by omega))) rfl ?_
               clear hE a; intro a hE
               refine qvG hE (by first | exact .t rfl | exact .f rfl | exact .gt rfl | exact .gf rfl) (fun hg w hw => by (try simp only [↓gval_on hg, ↓gval_and hg] at hE); (have hg2 := hg; (try simp only [Bool.and_eq_true, Bool.or_eq_true, Bool.not_eq_true', decide_eq_true_eq, decide_eq_false_iff_not] at hg2)); first | exact r_bin ⟨hE, hw⟩ rfl rfl (B.rem_u8 (y := 2) (by decide))) rfl ?_
               clear hE a; intro a hE
               refine qvG hE (by first | exact .t rfl | exact .f rfl | exact .gt rfl | exact .gf rfl) (fun hg w hw => by (try simp only [↓gval_on hg, ↓gval_and hg] at hE); (have hg2 := hg; (try simp only [Bool.and_eq_true, Bool.or_eq_true, Bool.not_eq_true', decide_eq_true_eq, decide_eq_false_iff_not] at hg2)); first | exact r_bin ⟨hE, hw⟩ rfl rfl (B.eql_u8 (y := 1))) rfl ?_
               clear hE a; intro a hE
               first
                              | (refine qv hE (fun w hw => r_pickA ⟨hE, hw⟩ rfl rfl rfl) rfl ?_)
                              | (refine qv hE (fun w hw => r_pickO ⟨hE, hw⟩ rfl rfl rfl) rfl ?_)
                              | (refine qv hE (fun w hw => r_pick_true ⟨hE, hw⟩ rfl rfl) rfl ?_)
                              | (refine qv hE (fun w hw => r_pick_false ⟨hE, hw⟩ rfl rfl) rfl ?_)
                              | (refine qv hE (fun w hw => r_pick ⟨hE, hw⟩ rfl rfl rfl) rfl ?_)
               clear hE a; intro a hE
               refine qnil hE ?_
               clear hE a; intro a w h
               refine c_then ?_
               first
                | refine c_condD h rfl (fun ht16 => ?_) (fun ht16 => ?_)
                | refine c_condP h rfl (by first | (simp only [Bool.and_eq_true, Bool.or_eq_true, Bool.not_eq_true', decide_eq_true_eq, decide_eq_false_iff_not, ne_eq, Bool.not_eq_eq_eq_not, Bool.not_true, beq_iff_eq, bne_iff_ne]; exact Iff.rfl) | exact Iff.rfl) (fun ht16 => ?_) (fun ht16 => ?_)
               ·
                have hb : Dk.bit A.p j = true := by
                  rw [e1] at ht16; simp only [Dk.bit, Bool.and_eq_true, decide_eq_true_eq, u8_and1]; exact ⟨by omega, ht16.2⟩
                as_aux_lemma =>
                 refine c_tail 10 K.mixed (by kernel_rfl) h ?_
                 clear h a w; intro a w h
                 refine yv h (r_move h rfl) rfl ?_
                 clear h a; intro a h
                 refine yv h (r_move h rfl) rfl ?_
                 clear h a; intro a h
                 refine yv h (r_move h rfl) rfl ?_
                 clear h a; intro a h
                 refine yv h (r_elP h rfl rfl K.u_S_int K.sz_int (by first | exact Views.own 0 rfl | exact Views.own 1 rfl | exact Views.own 2 rfl | exact Views.own 3 rfl | exact Views.own 4 rfl | exact Views.own 5 rfl | assumption | exact Views.of_drop 1 (by assumption) | exact Views.of_drop 2 (by assumption) | exact Views.of_drop 3 (by assumption) | exact Views.of_drop 4 (by assumption) | exact Views.of_drop 5 (by assumption) | exact Views.of_drop 6 (by assumption) | exact Views.of_drop 7 (by assumption) | exact Views.of_drop 8 (by assumption) | exact Views.of_drop 9 (by assumption) | exact Views.of_drop 10 (by assumption) | exact Views.of_drop 11 (by assumption) | exact Views.of_drop 12 (by assumption)) (by first | omega | (simp; done)) (by first | omega | (simp only [List.length_cons, List.length_nil]; omega) | (simp; done) | (simp; omega))) rfl ?_
                 clear h a; intro a h
                 refine yv h (r_eli h rfl K.u_int rfl (by first | exact Views.own 0 rfl | exact Views.own 1 rfl | exact Views.own 2 rfl | exact Views.own 3 rfl | exact Views.own 4 rfl | exact Views.own 5 rfl | assumption | exact Views.of_drop 1 (by assumption) | exact Views.of_drop 2 (by assumption) | exact Views.of_drop 3 (by assumption) | exact Views.of_drop 4 (by assumption) | exact Views.of_drop 5 (by assumption) | exact Views.of_drop 6 (by assumption) | exact Views.of_drop 7 (by assumption) | exact Views.of_drop 8 (by assumption) | exact Views.of_drop 9 (by assumption) | exact Views.of_drop 10 (by assumption) | exact Views.of_drop 11 (by assumption) | exact Views.of_drop 12 (by assumption)) (by first | omega | (simp only [List.length_cons, List.length_nil]; omega) | (simp; done) | (simp; omega))) rfl ?_
                 clear h a; intro a h
                 rw [wetI_get hq] at h
                 refine yv h (r_move h rfl) rfl ?_
                 clear h a; intro a h
                 refine yv h (r_move h rfl) rfl ?_
                 clear h a; intro a h
                 refine yv h (r_elP h rfl rfl K.u_S_S_uint8 K.sz_S_uint8 (by first | exact Views.own 0 rfl | exact Views.own 1 rfl | exact Views.own 2 rfl | exact Views.own 3 rfl | exact Views.own 4 rfl | exact Views.own 5 rfl | assumption | exact Views.of_drop 1 (by assumption) | exact Views.of_drop 2 (by assumption) | exact Views.of_drop 3 (by assumption) | exact Views.of_drop 4 (by assumption) | exact Views.of_drop 5 (by assumption) | exact Views.of_drop 6 (by assumption) | exact Views.of_drop 7 (by assumption) | exact Views.of_drop 8 (by assumption) | exact Views.of_drop 9 (by assumption) | exact Views.of_drop 10 (by assumption) | exact Views.of_drop 11 (by assumption) | exact Views.of_drop 12 (by assumption)) (by first | omega | (simp; done)) (by first | omega | (simp only [List.length_cons, List.length_nil]; omega) | (simp; done) | (simp; omega))) rfl ?_
                 clear h a; intro a h
                 refine yv h (r_elG h rfl K.u_S_uint8 rfl (Views.own 4 rfl) (u := u) (by simpa using hu)) rfl ?_
                 clear h a; intro a h
                 refine yv h (r_elP h rfl rfl K.u_S_S_uint8 K.sz_S_uint8 (by first | exact Views.own 0 rfl | exact Views.own 1 rfl | exact Views.own 2 rfl | exact Views.own 3 rfl | exact Views.own 4 rfl | exact Views.own 5 rfl | assumption | exact Views.of_drop 1 (by assumption) | exact Views.of_drop 2 (by assumption) | exact Views.of_drop 3 (by assumption) | exact Views.of_drop 4 (by assumption) | exact Views.of_drop 5 (by assumption) | exact Views.of_drop 6 (by assumption) | exact Views.of_drop 7 (by assumption) | exact Views.of_drop 8 (by assumption) | exact Views.of_drop 9 (by assumption) | exact Views.of_drop 10 (by assumption) | exact Views.of_drop 11 (by assumption) | exact Views.of_drop 12 (by assumption)) (by first | omega | (simp; done)) (by first | omega | (simp only [List.length_cons, List.length_nil]; omega) | (simp; done) | (simp; omega))) rfl ?_
                 clear h a; intro a h
                 refine ynil ?_
                 refine wl rfl (op_storeI (j := q.1) h rfl rfl K.sz_S_uint8 (Views.oneCell huv (h.2.drop 5)) 2 rfl (by omega) ?_)
                 clear h a w; intro a w h
                 refine wnil ?_
                 refine b_normal ?_
                 refine c_then ?_
                 refine c_region ?_
                 refine wv h (r_move h rfl) rfl ?_
                 clear h a w; intro a w h
                 refine wv h (r_bin h rfl rfl (B.add_i64 (by omega) (by omega))) rfl ?_
                 clear h a w; intro a w h
                 refine wv h (r_assign h rfl) rfl ?_
                 clear h a w; intro a w h
                 refine wnil ?_
                 exact ⟨(j + 1, T2.set q.1 u), h.keep [1, 5, 6, 7, 9, 10, 13, 14, 15, 18], ⟨by show j + 1 ≤ _; omega, by
                   show SafeV (G ++ F) (T2.set q.1 u) (Dk.keepL (Dk.bit A.p) 0 (D.wet.take (j + 1)) D.safe)
                   rw [keepL_take _ hq, if_pos hb]
                   exact hy3.set huv⟩, by show D.wet.length - (j + 1) < D.wet.length - j; omega⟩
               ·
                have hb : ¬ Dk.bit A.p j = true := by
                  rw [e1] at ht16; simp only [Dk.bit, Bool.and_eq_true, decide_eq_true_eq, u8_and1]; exact fun q => ht16 ⟨by omega, q.2⟩
                refine c_skip ?_
                refine b_normal ?_
                refine c_then ?_
                refine c_region ?_
                refine wv h (r_move h rfl) rfl ?_
                clear h a w; intro a w h
                refine wv h (r_bin h rfl rfl (B.add_i64 (by omega) (by omega))) rfl ?_
                clear h a w; intro a w h
                refine wv h (r_assign h rfl) rfl ?_
                clear h a w; intro a w h
                refine wnil ?_
                exact ⟨(j + 1, T2), h.keep [1, 5, 6, 7, 9, 10, 13, 14, 15, 18], ⟨by show j + 1 ≤ _; omega, by
                  show SafeV (G ++ F) T2 (Dk.keepL (Dk.bit A.p) 0 (D.wet.take (j + 1)) D.safe)
                  rw [keepL_take _ hq, if_neg hb]
                  exact hy3⟩, by show D.wet.length - (j + 1) < D.wet.length - j; omega⟩
              ·
               refine c_exit ?_
               refine e_then ?_
               refine e_then ?_
               refine e_here ?_
               refine c_then ?_
               refine c_seq (c_region ?_)
               refine wv h (r_assign h rfl) rfl ?_
               clear h a w; intro a w h
               refine wnil (c_then ?_)
               refine c_seq (c_region ?_)
               refine wv h (r_assign h rfl) rfl ?_
               clear h a w; intro a w h
               refine wnil (c_then ?_)
               refine c_seq (c_region ?_)
               refine wv h (r_assign h rfl) rfl ?_
               clear h a w; intro a w h
               refine wnil (c_then ?_)
               refine c_region ?_
               refine wv h (r_assign h rfl) rfl ?_
               clear h a w; intro a w h
               refine wnil ?_
               refine b_normal ?_
               rw [show j = D.wet.length by omega, List.take_length] at hy3
               replace h := (((h.rid 4).rid 3).rid 0).addNilL (enc := id) |>.addNilL (enc := Value.int .i64)
               replace h := (h.front 3 rfl).front 3 rfl
               exact ⟨⟨D.crash A.p, vs, T2, .slice none 0 0, .slice none 0 0, [], G⟩, h.keep [1, 5, 6, 7, 9, 10, 11, 12, 13, 14], hcok.1, by have := hcok.2; dsimp only; omega, by show (Dk.keepL _ _ _ _).length = i; rw [Dk.keepL_len, hsl], hy3, rfl, fun j u q hu => by simp at hu⟩
           ·
            refine c_seq (c_region ?_)
            refine wv h (r_move h rfl) rfl ?_
            clear h a w; intro a w h
            refine wv h (r_fieldAddr h 1 rfl K.u_interleaflaw04_Act rfl K.sz_int rfl rfl) rfl ?_
            clear h a w; intro a w h
            first
                        | (refine wv h (r_ldN h rfl K.u_int rfl 0 rfl rfl) rfl ?_)
                        | (refine wv h (r_ldN h rfl K.u_int rfl 1 rfl rfl) rfl ?_)
                        | (refine wv h (r_ldN h rfl K.u_int rfl 2 rfl rfl) rfl ?_)
                        | (refine wv h (r_ldN h rfl K.u_int rfl 3 rfl rfl) rfl ?_)
                        | (refine wv h (r_ldN h rfl K.u_int rfl 4 rfl rfl) rfl ?_)
                        | (refine wv h (r_ldN h rfl K.u_int rfl 5 rfl rfl) rfl ?_)
                        | (refine wv h (r_ldN h rfl K.u_int rfl 6 rfl rfl) rfl ?_)
                        | (refine wv h (r_ldC (o := 1) h rfl K.u_int rfl 0 rfl) rfl ?_)
                        | (refine wv h (r_ldC (o := 1) h rfl K.u_int rfl 1 rfl) rfl ?_)
                        | (refine wv h (r_ldC (o := 1) h rfl K.u_int rfl 2 rfl) rfl ?_)
                        | (refine wv h (r_ldC (o := 1) h rfl K.u_int rfl 3 rfl) rfl ?_)
                        | (refine wv h (r_ldC (o := 1) h rfl K.u_int rfl 4 rfl) rfl ?_)
                        | (refine wv h (r_ldC (o := 1) h rfl K.u_int rfl 5 rfl) rfl ?_)
                        | (refine wv h (r_ldC (o := 1) h rfl K.u_int rfl 6 rfl) rfl ?_)
                        | (refine wv h (r_load h rfl K.u_int rfl 0 rfl rfl) rfl ?_)
                        | (refine wv h (r_load h rfl K.u_int rfl 1 rfl rfl) rfl ?_)
                        | (refine wv h (r_load h rfl K.u_int rfl 2 rfl rfl) rfl ?_)
                        | (refine wv h (r_load h rfl K.u_int rfl 3 rfl rfl) rfl ?_)
                        | (refine wv h (r_load h rfl K.u_int rfl 4 rfl rfl) rfl ?_)
                        | (refine wv h (r_load h rfl K.u_int rfl 5 rfl rfl) rfl ?_)
                        | (refine wv h (r_load1 h rfl K.u_int rfl (by assumption)) rfl ?_)
            clear h a w; intro a w h
            refine wv h (r_fieldAddr h 2 rfl K.u_interleaflaw04_Act rfl K.sz_S_uint8 rfl rfl) rfl ?_
            clear h a w; intro a w h
            first
                        | (refine wv h (r_ldN h rfl K.u_S_uint8 rfl 0 rfl rfl) rfl ?_)
                        | (refine wv h (r_ldN h rfl K.u_S_uint8 rfl 1 rfl rfl) rfl ?_)
                        | (refine wv h (r_ldN h rfl K.u_S_uint8 rfl 2 rfl rfl) rfl ?_)
                        | (refine wv h (r_ldN h rfl K.u_S_uint8 rfl 3 rfl rfl) rfl ?_)
                        | (refine wv h (r_ldN h rfl K.u_S_uint8 rfl 4 rfl rfl) rfl ?_)
                        | (refine wv h (r_ldN h rfl K.u_S_uint8 rfl 5 rfl rfl) rfl ?_)
                        | (refine wv h (r_ldN h rfl K.u_S_uint8 rfl 6 rfl rfl) rfl ?_)
                        | (refine wv h (r_ldC (o := 2) h rfl K.u_S_uint8 rfl 0 rfl) rfl ?_)
                        | (refine wv h (r_ldC (o := 2) h rfl K.u_S_uint8 rfl 1 rfl) rfl ?_)
                        | (refine wv h (r_ldC (o := 2) h rfl K.u_S_uint8 rfl 2 rfl) rfl ?_)
                        | (refine wv h (r_ldC (o := 2) h rfl K.u_S_uint8 rfl 3 rfl) rfl ?_)
                        | (refine wv h (r_ldC (o := 2) h rfl K.u_S_uint8 rfl 4 rfl) rfl ?_)
                        | (refine wv h (r_ldC (o := 2) h rfl K.u_S_uint8 rfl 5 rfl) rfl ?_)
                        | (refine wv h (r_ldC (o := 2) h rfl K.u_S_uint8 rfl 6 rfl) rfl ?_)
                        | (refine wv h (r_load h rfl K.u_S_uint8 rfl 0 rfl rfl) rfl ?_)
                        | (refine wv h (r_load h rfl K.u_S_uint8 rfl 1 rfl rfl) rfl ?_)
                        | (refine wv h (r_load h rfl K.u_S_uint8 rfl 2 rfl rfl) rfl ?_)
                        | (refine wv h (r_load h rfl K.u_S_uint8 rfl 3 rfl rfl) rfl ?_)
                        | (refine wv h (r_load h rfl K.u_S_uint8 rfl 4 rfl rfl) rfl ?_)
                        | (refine wv h (r_load h rfl K.u_S_uint8 rfl 5 rfl rfl) rfl ?_)
                        | (refine wv h (r_load1 h rfl K.u_S_uint8 rfl (by assumption)) rfl ?_)
            clear h a w; intro a w h
            first
                        | (refine wl rfl (op_call h rfl K.go_disk_Disk_Write (disk_Write s _ _ _ _ _ _ _ 0 rfl (by first | assumption | exact Dk.OkN.ok' (by decide)) (by first | assumption | omega | exact Dk.OkN.lt (by decide)) (by first | exact ViewsB.own 0 rfl | exact ViewsB.own 1 rfl | exact ViewsB.own 2 rfl | exact ViewsB.own 3 rfl | exact ViewsB.own 4 rfl | exact ViewsB.own 5 rfl | assumption | exact ViewsB.nil _ | exact ViewsB.arr 0 rfl (by first | assumption | rfl | (simp; done)) (Nat.le_refl _) (by simp [maxLen]) | exact ViewsB.arr 1 rfl (by first | assumption | rfl | (simp; done)) (Nat.le_refl _) (by simp [maxLen]) | exact ViewsB.arr 2 rfl (by first | assumption | rfl | (simp; done)) (Nat.le_refl _) (by simp [maxLen]) | exact ViewsB.arr 3 rfl (by first | assumption | rfl | (simp; done)) (Nat.le_refl _) (by simp [maxLen]) | exact ViewsB.arr 4 rfl (by first | assumption | rfl | (simp; done)) (Nat.le_refl _) (by simp [maxLen]) | exact ViewsB.of_drop 1 (by assumption) | exact ViewsB.of_drop 2 (by assumption) | exact ViewsB.of_drop 3 (by assumption) | exact ViewsB.of_drop 4 (by assumption) | exact ViewsB.of_drop 5 (by assumption) | exact ViewsB.of_drop 6 (by assumption) | exact ViewsB.of_drop 7 (by assumption) | exact ViewsB.of_drop 8 (by assumption) | exact ViewsB.of_drop 9 (by assumption) | exact ViewsB.of_drop 10 (by assumption) | exact ViewsB.of_drop 11 (by assumption) | exact ViewsB.of_drop 12 (by assumption) | exact ViewsB.sub (by first | exact ViewsB.own 0 rfl | exact ViewsB.own 1 rfl | exact ViewsB.own 2 rfl | exact ViewsB.own 3 rfl | exact ViewsB.own 4 rfl | exact ViewsB.own 5 rfl | assumption | exact ViewsB.nil _ | exact ViewsB.arr 0 rfl (by first | assumption | rfl | (simp; done)) (Nat.le_refl _) (by simp [maxLen]) | exact ViewsB.arr 1 rfl (by first | assumption | rfl | (simp; done)) (Nat.le_refl _) (by simp [maxLen]) | exact ViewsB.arr 2 rfl (by first | assumption | rfl | (simp; done)) (Nat.le_refl _) (by simp [maxLen]) | exact ViewsB.arr 3 rfl (by first | assumption | rfl | (simp; done)) (Nat.le_refl _) (by simp [maxLen]) | exact ViewsB.arr 4 rfl (by first | assumption | rfl | (simp; done)) (Nat.le_refl _) (by simp [maxLen]) | exact ViewsB.of_drop 1 (by assumption) | exact ViewsB.of_drop 2 (by assumption) | exact ViewsB.of_drop 3 (by assumption) | exact ViewsB.of_drop 4 (by assumption) | exact ViewsB.of_drop 5 (by assumption) | exact ViewsB.of_drop 6 (by assumption) | exact ViewsB.of_drop 7 (by assumption) | exact ViewsB.of_drop 8 (by assumption) | exact ViewsB.of_drop 9 (by assumption) | exact ViewsB.of_drop 10 (by assumption) | exact ViewsB.of_drop 11 (by assumption) | exact ViewsB.of_drop 12 (by assumption)) (by omega) (by first | omega | (simp; done) | (simp; omega))) h.2) rfl ?_))
                        | (refine wl rfl (op_call h rfl K.go_disk_Disk_Write (disk_Write s _ _ _ _ _ _ _ 1 rfl (by first | assumption | exact Dk.OkN.ok' (by decide)) (by first | assumption | omega | exact Dk.OkN.lt (by decide)) (by first | exact ViewsB.own 0 rfl | exact ViewsB.own 1 rfl | exact ViewsB.own 2 rfl | exact ViewsB.own 3 rfl | exact ViewsB.own 4 rfl | exact ViewsB.own 5 rfl | assumption | exact ViewsB.nil _ | exact ViewsB.arr 0 rfl (by first | assumption | rfl | (simp; done)) (Nat.le_refl _) (by simp [maxLen]) | exact ViewsB.arr 1 rfl (by first | assumption | rfl | (simp; done)) (Nat.le_refl _) (by simp [maxLen]) | exact ViewsB.arr 2 rfl (by first | assumption | rfl | (simp; done)) (Nat.le_refl _) (by simp [maxLen]) | exact ViewsB.arr 3 rfl (by first | assumption | rfl | (simp; done)) (Nat.le_refl _) (by simp [maxLen]) | exact ViewsB.arr 4 rfl (by first | assumption | rfl | (simp; done)) (Nat.le_refl _) (by simp [maxLen]) | exact ViewsB.of_drop 1 (by assumption) | exact ViewsB.of_drop 2 (by assumption) | exact ViewsB.of_drop 3 (by assumption) | exact ViewsB.of_drop 4 (by assumption) | exact ViewsB.of_drop 5 (by assumption) | exact ViewsB.of_drop 6 (by assumption) | exact ViewsB.of_drop 7 (by assumption) | exact ViewsB.of_drop 8 (by assumption) | exact ViewsB.of_drop 9 (by assumption) | exact ViewsB.of_drop 10 (by assumption) | exact ViewsB.of_drop 11 (by assumption) | exact ViewsB.of_drop 12 (by assumption) | exact ViewsB.sub (by first | exact ViewsB.own 0 rfl | exact ViewsB.own 1 rfl | exact ViewsB.own 2 rfl | exact ViewsB.own 3 rfl | exact ViewsB.own 4 rfl | exact ViewsB.own 5 rfl | assumption | exact ViewsB.nil _ | exact ViewsB.arr 0 rfl (by first | assumption | rfl | (simp; done)) (Nat.le_refl _) (by simp [maxLen]) | exact ViewsB.arr 1 rfl (by first | assumption | rfl | (simp; done)) (Nat.le_refl _) (by simp [maxLen]) | exact ViewsB.arr 2 rfl (by first | assumption | rfl | (simp; done)) (Nat.le_refl _) (by simp [maxLen]) | exact ViewsB.arr 3 rfl (by first | assumption | rfl | (simp; done)) (Nat.le_refl _) (by simp [maxLen]) | exact ViewsB.arr 4 rfl (by first | assumption | rfl | (simp; done)) (Nat.le_refl _) (by simp [maxLen]) | exact ViewsB.of_drop 1 (by assumption) | exact ViewsB.of_drop 2 (by assumption) | exact ViewsB.of_drop 3 (by assumption) | exact ViewsB.of_drop 4 (by assumption) | exact ViewsB.of_drop 5 (by assumption) | exact ViewsB.of_drop 6 (by assumption) | exact ViewsB.of_drop 7 (by assumption) | exact ViewsB.of_drop 8 (by assumption) | exact ViewsB.of_drop 9 (by assumption) | exact ViewsB.of_drop 10 (by assumption) | exact ViewsB.of_drop 11 (by assumption) | exact ViewsB.of_drop 12 (by assumption)) (by omega) (by first | omega | (simp; done) | (simp; omega))) h.2) rfl ?_))
                        | (refine wl rfl (op_call h rfl K.go_disk_Disk_Write (disk_Write s _ _ _ _ _ _ _ 2 rfl (by first | assumption | exact Dk.OkN.ok' (by decide)) (by first | assumption | omega | exact Dk.OkN.lt (by decide)) (by first | exact ViewsB.own 0 rfl | exact ViewsB.own 1 rfl | exact ViewsB.own 2 rfl | exact ViewsB.own 3 rfl | exact ViewsB.own 4 rfl | exact ViewsB.own 5 rfl | assumption | exact ViewsB.nil _ | exact ViewsB.arr 0 rfl (by first | assumption | rfl | (simp; done)) (Nat.le_refl _) (by simp [maxLen]) | exact ViewsB.arr 1 rfl (by first | assumption | rfl | (simp; done)) (Nat.le_refl _) (by simp [maxLen]) | exact ViewsB.arr 2 rfl (by first | assumption | rfl | (simp; done)) (Nat.le_refl _) (by simp [maxLen]) | exact ViewsB.arr 3 rfl (by first | assumption | rfl | (simp; done)) (Nat.le_refl _) (by simp [maxLen]) | exact ViewsB.arr 4 rfl (by first | assumption | rfl | (simp; done)) (Nat.le_refl _) (by simp [maxLen]) | exact ViewsB.of_drop 1 (by assumption) | exact ViewsB.of_drop 2 (by assumption) | exact ViewsB.of_drop 3 (by assumption) | exact ViewsB.of_drop 4 (by assumption) | exact ViewsB.of_drop 5 (by assumption) | exact ViewsB.of_drop 6 (by assumption) | exact ViewsB.of_drop 7 (by assumption) | exact ViewsB.of_drop 8 (by assumption) | exact ViewsB.of_drop 9 (by assumption) | exact ViewsB.of_drop 10 (by assumption) | exact ViewsB.of_drop 11 (by assumption) | exact ViewsB.of_drop 12 (by assumption) | exact ViewsB.sub (by first | exact ViewsB.own 0 rfl | exact ViewsB.own 1 rfl | exact ViewsB.own 2 rfl | exact ViewsB.own 3 rfl | exact ViewsB.own 4 rfl | exact ViewsB.own 5 rfl | assumption | exact ViewsB.nil _ | exact ViewsB.arr 0 rfl (by first | assumption | rfl | (simp; done)) (Nat.le_refl _) (by simp [maxLen]) | exact ViewsB.arr 1 rfl (by first | assumption | rfl | (simp; done)) (Nat.le_refl _) (by simp [maxLen]) | exact ViewsB.arr 2 rfl (by first | assumption | rfl | (simp; done)) (Nat.le_refl _) (by simp [maxLen]) | exact ViewsB.arr 3 rfl (by first | assumption | rfl | (simp; done)) (Nat.le_refl _) (by simp [maxLen]) | exact ViewsB.arr 4 rfl (by first | assumption | rfl | (simp; done)) (Nat.le_refl _) (by simp [maxLen]) | exact ViewsB.of_drop 1 (by assumption) | exact ViewsB.of_drop 2 (by assumption) | exact ViewsB.of_drop 3 (by assumption) | exact ViewsB.of_drop 4 (by assumption) | exact ViewsB.of_drop 5 (by assumption) | exact ViewsB.of_drop 6 (by assumption) | exact ViewsB.of_drop 7 (by assumption) | exact ViewsB.of_drop 8 (by assumption) | exact ViewsB.of_drop 9 (by assumption) | exact ViewsB.of_drop 10 (by assumption) | exact ViewsB.of_drop 11 (by assumption) | exact ViewsB.of_drop 12 (by assumption)) (by omega) (by first | omega | (simp; done) | (simp; omega))) h.2) rfl ?_))
                        | (refine wl rfl (op_call h rfl K.go_disk_Disk_Write (disk_Write s _ _ _ _ _ _ _ 3 rfl (by first | assumption | exact Dk.OkN.ok' (by decide)) (by first | assumption | omega | exact Dk.OkN.lt (by decide)) (by first | exact ViewsB.own 0 rfl | exact ViewsB.own 1 rfl | exact ViewsB.own 2 rfl | exact ViewsB.own 3 rfl | exact ViewsB.own 4 rfl | exact ViewsB.own 5 rfl | assumption | exact ViewsB.nil _ | exact ViewsB.arr 0 rfl (by first | assumption | rfl | (simp; done)) (Nat.le_refl _) (by simp [maxLen]) | exact ViewsB.arr 1 rfl (by first | assumption | rfl | (simp; done)) (Nat.le_refl _) (by simp [maxLen]) | exact ViewsB.arr 2 rfl (by first | assumption | rfl | (simp; done)) (Nat.le_refl _) (by simp [maxLen]) | exact ViewsB.arr 3 rfl (by first | assumption | rfl | (simp; done)) (Nat.le_refl _) (by simp [maxLen]) | exact ViewsB.arr 4 rfl (by first | assumption | rfl | (simp; done)) (Nat.le_refl _) (by simp [maxLen]) | exact ViewsB.of_drop 1 (by assumption) | exact ViewsB.of_drop 2 (by assumption) | exact ViewsB.of_drop 3 (by assumption) | exact ViewsB.of_drop 4 (by assumption) | exact ViewsB.of_drop 5 (by assumption) | exact ViewsB.of_drop 6 (by assumption) | exact ViewsB.of_drop 7 (by assumption) | exact ViewsB.of_drop 8 (by assumption) | exact ViewsB.of_drop 9 (by assumption) | exact ViewsB.of_drop 10 (by assumption) | exact ViewsB.of_drop 11 (by assumption) | exact ViewsB.of_drop 12 (by assumption) | exact ViewsB.sub (by first | exact ViewsB.own 0 rfl | exact ViewsB.own 1 rfl | exact ViewsB.own 2 rfl | exact ViewsB.own 3 rfl | exact ViewsB.own 4 rfl | exact ViewsB.own 5 rfl | assumption | exact ViewsB.nil _ | exact ViewsB.arr 0 rfl (by first | assumption | rfl | (simp; done)) (Nat.le_refl _) (by simp [maxLen]) | exact ViewsB.arr 1 rfl (by first | assumption | rfl | (simp; done)) (Nat.le_refl _) (by simp [maxLen]) | exact ViewsB.arr 2 rfl (by first | assumption | rfl | (simp; done)) (Nat.le_refl _) (by simp [maxLen]) | exact ViewsB.arr 3 rfl (by first | assumption | rfl | (simp; done)) (Nat.le_refl _) (by simp [maxLen]) | exact ViewsB.arr 4 rfl (by first | assumption | rfl | (simp; done)) (Nat.le_refl _) (by simp [maxLen]) | exact ViewsB.of_drop 1 (by assumption) | exact ViewsB.of_drop 2 (by assumption) | exact ViewsB.of_drop 3 (by assumption) | exact ViewsB.of_drop 4 (by assumption) | exact ViewsB.of_drop 5 (by assumption) | exact ViewsB.of_drop 6 (by assumption) | exact ViewsB.of_drop 7 (by assumption) | exact ViewsB.of_drop 8 (by assumption) | exact ViewsB.of_drop 9 (by assumption) | exact ViewsB.of_drop 10 (by assumption) | exact ViewsB.of_drop 11 (by assumption) | exact ViewsB.of_drop 12 (by assumption)) (by omega) (by first | omega | (simp; done) | (simp; omega))) h.2) rfl ?_))
                        | (refine wl rfl (op_call h rfl K.go_disk_Disk_Write (disk_Write s _ _ _ _ _ _ _ 4 rfl (by first | assumption | exact Dk.OkN.ok' (by decide)) (by first | assumption | omega | exact Dk.OkN.lt (by decide)) (by first | exact ViewsB.own 0 rfl | exact ViewsB.own 1 rfl | exact ViewsB.own 2 rfl | exact ViewsB.own 3 rfl | exact ViewsB.own 4 rfl | exact ViewsB.own 5 rfl | assumption | exact ViewsB.nil _ | exact ViewsB.arr 0 rfl (by first | assumption | rfl | (simp; done)) (Nat.le_refl _) (by simp [maxLen]) | exact ViewsB.arr 1 rfl (by first | assumption | rfl | (simp; done)) (Nat.le_refl _) (by simp [maxLen]) | exact ViewsB.arr 2 rfl (by first | assumption | rfl | (simp; done)) (Nat.le_refl _) (by simp [maxLen]) | exact ViewsB.arr 3 rfl (by first | assumption | rfl | (simp; done)) (Nat.le_refl _) (by simp [maxLen]) | exact ViewsB.arr 4 rfl (by first | assumption | rfl | (simp; done)) (Nat.le_refl _) (by simp [maxLen]) | exact ViewsB.of_drop 1 (by assumption) | exact ViewsB.of_drop 2 (by assumption) | exact ViewsB.of_drop 3 (by assumption) | exact ViewsB.of_drop 4 (by assumption) | exact ViewsB.of_drop 5 (by assumption) | exact ViewsB.of_drop 6 (by assumption) | exact ViewsB.of_drop 7 (by assumption) | exact ViewsB.of_drop 8 (by assumption) | exact ViewsB.of_drop 9 (by assumption) | exact ViewsB.of_drop 10 (by assumption) | exact ViewsB.of_drop 11 (by assumption) | exact ViewsB.of_drop 12 (by assumption) | exact ViewsB.sub (by first | exact ViewsB.own 0 rfl | exact ViewsB.own 1 rfl | exact ViewsB.own 2 rfl | exact ViewsB.own 3 rfl | exact ViewsB.own 4 rfl | exact ViewsB.own 5 rfl | assumption | exact ViewsB.nil _ | exact ViewsB.arr 0 rfl (by first | assumption | rfl | (simp; done)) (Nat.le_refl _) (by simp [maxLen]) | exact ViewsB.arr 1 rfl (by first | assumption | rfl | (simp; done)) (Nat.le_refl _) (by simp [maxLen]) | exact ViewsB.arr 2 rfl (by first | assumption | rfl | (simp; done)) (Nat.le_refl _) (by simp [maxLen]) | exact ViewsB.arr 3 rfl (by first | assumption | rfl | (simp; done)) (Nat.le_refl _) (by simp [maxLen]) | exact ViewsB.arr 4 rfl (by first | assumption | rfl | (simp; done)) (Nat.le_refl _) (by simp [maxLen]) | exact ViewsB.of_drop 1 (by assumption) | exact ViewsB.of_drop 2 (by assumption) | exact ViewsB.of_drop 3 (by assumption) | exact ViewsB.of_drop 4 (by assumption) | exact ViewsB.of_drop 5 (by assumption) | exact ViewsB.of_drop 6 (by assumption) | exact ViewsB.of_drop 7 (by assumption) | exact ViewsB.of_drop 8 (by assumption) | exact ViewsB.of_drop 9 (by assumption) | exact ViewsB.of_drop 10 (by assumption) | exact ViewsB.of_drop 11 (by assumption) | exact ViewsB.of_drop 12 (by assumption)) (by omega) (by first | omega | (simp; done) | (simp; omega))) h.2) rfl ?_))
                        | (refine wl rfl (op_call h rfl K.go_disk_Disk_Write (disk_Write s _ _ _ _ _ _ _ 5 rfl (by first | assumption | exact Dk.OkN.ok' (by decide)) (by first | assumption | omega | exact Dk.OkN.lt (by decide)) (by first | exact ViewsB.own 0 rfl | exact ViewsB.own 1 rfl | exact ViewsB.own 2 rfl | exact ViewsB.own 3 rfl | exact ViewsB.own 4 rfl | exact ViewsB.own 5 rfl | assumption | exact ViewsB.nil _ | exact ViewsB.arr 0 rfl (by first | assumption | rfl | (simp; done)) (Nat.le_refl _) (by simp [maxLen]) | exact ViewsB.arr 1 rfl (by first | assumption | rfl | (simp; done)) (Nat.le_refl _) (by simp [maxLen]) | exact ViewsB.arr 2 rfl (by first | assumption | rfl | (simp; done)) (Nat.le_refl _) (by simp [maxLen]) | exact ViewsB.arr 3 rfl (by first | assumption | rfl | (simp; done)) (Nat.le_refl _) (by simp [maxLen]) | exact ViewsB.arr 4 rfl (by first | assumption | rfl | (simp; done)) (Nat.le_refl _) (by simp [maxLen]) | exact ViewsB.of_drop 1 (by assumption) | exact ViewsB.of_drop 2 (by assumption) | exact ViewsB.of_drop 3 (by assumption) | exact ViewsB.of_drop 4 (by assumption) | exact ViewsB.of_drop 5 (by assumption) | exact ViewsB.of_drop 6 (by assumption) | exact ViewsB.of_drop 7 (by assumption) | exact ViewsB.of_drop 8 (by assumption) | exact ViewsB.of_drop 9 (by assumption) | exact ViewsB.of_drop 10 (by assumption) | exact ViewsB.of_drop 11 (by assumption) | exact ViewsB.of_drop 12 (by assumption) | exact ViewsB.sub (by first | exact ViewsB.own 0 rfl | exact ViewsB.own 1 rfl | exact ViewsB.own 2 rfl | exact ViewsB.own 3 rfl | exact ViewsB.own 4 rfl | exact ViewsB.own 5 rfl | assumption | exact ViewsB.nil _ | exact ViewsB.arr 0 rfl (by first | assumption | rfl | (simp; done)) (Nat.le_refl _) (by simp [maxLen]) | exact ViewsB.arr 1 rfl (by first | assumption | rfl | (simp; done)) (Nat.le_refl _) (by simp [maxLen]) | exact ViewsB.arr 2 rfl (by first | assumption | rfl | (simp; done)) (Nat.le_refl _) (by simp [maxLen]) | exact ViewsB.arr 3 rfl (by first | assumption | rfl | (simp; done)) (Nat.le_refl _) (by simp [maxLen]) | exact ViewsB.arr 4 rfl (by first | assumption | rfl | (simp; done)) (Nat.le_refl _) (by simp [maxLen]) | exact ViewsB.of_drop 1 (by assumption) | exact ViewsB.of_drop 2 (by assumption) | exact ViewsB.of_drop 3 (by assumption) | exact ViewsB.of_drop 4 (by assumption) | exact ViewsB.of_drop 5 (by assumption) | exact ViewsB.of_drop 6 (by assumption) | exact ViewsB.of_drop 7 (by assumption) | exact ViewsB.of_drop 8 (by assumption) | exact ViewsB.of_drop 9 (by assumption) | exact ViewsB.of_drop 10 (by assumption) | exact ViewsB.of_drop 11 (by assumption) | exact ViewsB.of_drop 12 (by assumption)) (by omega) (by first | omega | (simp; done) | (simp; omega))) h.2) rfl ?_))
            clear h a w; intro x a w hx h
            (try simp only [List.set_cons_zero, List.set_cons_succ] at h)
            refine wv h (r_assign h rfl) rfl ?_
            clear h a w; intro a w h
            refine wnil (c_then ?_)
            refine c_seq ?_
            refine c_seq (c_region ?_)
            refine wv h (r_fieldAddr h 1 rfl K.u_interleaflaw04_Act rfl K.sz_int rfl rfl) rfl ?_
            clear h a w; intro a w h
            first
                        | (refine wv h (r_ldN h rfl K.u_int rfl 0 rfl rfl) rfl ?_)
                        | (refine wv h (r_ldN h rfl K.u_int rfl 1 rfl rfl) rfl ?_)
                        | (refine wv h (r_ldN h rfl K.u_int rfl 2 rfl rfl) rfl ?_)
                        | (refine wv h (r_ldN h rfl K.u_int rfl 3 rfl rfl) rfl ?_)
                        | (refine wv h (r_ldN h rfl K.u_int rfl 4 rfl rfl) rfl ?_)
                        | (refine wv h (r_ldN h rfl K.u_int rfl 5 rfl rfl) rfl ?_)
                        | (refine wv h (r_ldN h rfl K.u_int rfl 6 rfl rfl) rfl ?_)
                        | (refine wv h (r_ldC (o := 1) h rfl K.u_int rfl 0 rfl) rfl ?_)
                        | (refine wv h (r_ldC (o := 1) h rfl K.u_int rfl 1 rfl) rfl ?_)
                        | (refine wv h (r_ldC (o := 1) h rfl K.u_int rfl 2 rfl) rfl ?_)
                        | (refine wv h (r_ldC (o := 1) h rfl K.u_int rfl 3 rfl) rfl ?_)
                        | (refine wv h (r_ldC (o := 1) h rfl K.u_int rfl 4 rfl) rfl ?_)
                        | (refine wv h (r_ldC (o := 1) h rfl K.u_int rfl 5 rfl) rfl ?_)
                        | (refine wv h (r_ldC (o := 1) h rfl K.u_int rfl 6 rfl) rfl ?_)
                        | (refine wv h (r_load h rfl K.u_int rfl 0 rfl rfl) rfl ?_)
                        | (refine wv h (r_load h rfl K.u_int rfl 1 rfl rfl) rfl ?_)
                        | (refine wv h (r_load h rfl K.u_int rfl 2 rfl rfl) rfl ?_)
                        | (refine wv h (r_load h rfl K.u_int rfl 3 rfl rfl) rfl ?_)
                        | (refine wv h (r_load h rfl K.u_int rfl 4 rfl rfl) rfl ?_)
                        | (refine wv h (r_load h rfl K.u_int rfl 5 rfl rfl) rfl ?_)
                        | (refine wv h (r_load1 h rfl K.u_int rfl (by assumption)) rfl ?_)
            clear h a w; intro a w h
            refine wv h (r_bin h rfl rfl (B.lss_int)) rfl ?_
            clear h a w; intro a w h
            refine wv h (r_move h rfl) rfl ?_
            clear h a w; intro a w h
            refine wvG h (by first | exact .t rfl | exact .f rfl | exact .gt rfl | exact .gf rfl) (fun hg => by (try simp only [↓gval_on hg, ↓gval_and hg] at h); (have hg2 := hg; (try simp only [Bool.and_eq_true, Bool.or_eq_true, Bool.not_eq_true', decide_eq_true_eq, decide_eq_false_iff_not] at hg2)); first | exact r_fieldAddr h 1 rfl K.u_interleaflaw04_Act rfl K.sz_int rfl rfl) rfl ?_
            clear h a w; intro a w h
            refine wvG h (by first | exact .t rfl | exact .f rfl | exact .gt rfl | exact .gf rfl) (fun hg => by (try simp only [↓gval_on hg, ↓gval_and hg] at h); (have hg2 := hg; (try simp only [Bool.and_eq_true, Bool.or_eq_true, Bool.not_eq_true', decide_eq_true_eq, decide_eq_false_iff_not] at hg2)); first | exact r_ldN h rfl K.u_int rfl 0 rfl rfl | exact r_ldN h rfl K.u_int rfl 1 rfl rfl | exact r_ldN h rfl K.u_int rfl 2 rfl rfl | exact r_ldN h rfl K.u_int rfl 3 rfl rfl | exact r_ldN h rfl K.u_int rfl 4 rfl rfl | exact r_ldN h rfl K.u_int rfl 5 rfl rfl | exact r_ldN h rfl K.u_int rfl 6 rfl rfl | exact r_ldC (o := 1) h rfl K.u_int rfl 0 rfl | exact r_ldC (o := 1) h rfl K.u_int rfl 1 rfl | exact r_ldC (o := 1) h rfl K.u_int rfl 2 rfl | exact r_ldC (o := 1) h rfl K.u_int rfl 3 rfl | exact r_ldC (o := 1) h rfl K.u_int rfl 4 rfl | exact r_ldC (o := 1) h rfl K.u_int rfl 5 rfl | exact r_ldC (o := 1) h rfl K.u_int rfl 6 rfl | exact r_load h rfl K.u_int rfl 0 rfl rfl | exact r_load h rfl K.u_int rfl 1 rfl rfl | exact r_load h rfl K.u_int rfl 2 rfl rfl | exact r_load h rfl K.u_int rfl 3 rfl rfl | exact r_load h rfl K.u_int rfl 4 rfl rfl | exact r_load h rfl K.u_int rfl 5 rfl rfl | exact r_load1 h rfl K.u_int rfl (by assumption)) rfl ?_
            clear h a w; intro a w h
            refine wvG h (by first | exact .t rfl | exact .f rfl | exact .gt rfl | exact .gf rfl) (fun hg => by (try simp only [↓gval_on hg, ↓gval_and hg] at h); (have hg2 := hg; (try simp only [Bool.and_eq_true, Bool.or_eq_true, Bool.not_eq_true', decide_eq_true_eq, decide_eq_false_iff_not] at hg2)); first | exact r_move h rfl) rfl ?_
            clear h a w; intro a w h
            refine wvG h (by first | exact .t rfl | exact .f rfl | exact .gt rfl | exact .gf rfl) (fun hg => by (try simp only [↓gval_on hg, ↓gval_and hg] at h); (have hg2 := hg; (try simp only [Bool.and_eq_true, Bool.or_eq_true, Bool.not_eq_true', decide_eq_true_eq, decide_eq_false_iff_not] at hg2)); first | exact r_bin h rfl rfl (B.geq_int)) rfl ?_
            clear h a w; intro a w h
            first
                        | (refine wv h (r_pickA h rfl rfl rfl) rfl ?_)
                        | (refine wv h (r_pickO h rfl rfl rfl) rfl ?_)
                        | (refine wv h (r_pick_true h rfl rfl) rfl ?_)
                        | (refine wv h (r_pick_false h rfl rfl) rfl ?_)
                        | (refine wv h (r_pick h rfl rfl rfl) rfl ?_)
            clear h a w; intro a w h
            refine wv h (r_move h rfl) rfl ?_
            clear h a w; intro a w h
            refine wvG h (by first | exact .t rfl | exact .f rfl | exact .gt rfl | exact .gf rfl) (fun hg => by (try simp only [↓gval_on hg, ↓gval_and hg] at h); (have hg2 := hg; (try simp only [Bool.and_eq_true, Bool.or_eq_true, Bool.not_eq_true', decide_eq_true_eq, decide_eq_false_iff_not] at hg2)); first | exact r_fieldAddr h 2 rfl K.u_interleaflaw04_Act rfl K.sz_S_uint8 rfl rfl) rfl ?_
            clear h a w; intro a w h
            refine wvG h (by first | exact .t rfl | exact .f rfl | exact .gt rfl | exact .gf rfl) (fun hg => by (try simp only [↓gval_on hg, ↓gval_and hg] at h); (have hg2 := hg; (try simp only [Bool.and_eq_true, Bool.or_eq_true, Bool.not_eq_true', decide_eq_true_eq, decide_eq_false_iff_not] at hg2)); first | exact r_ldN h rfl K.u_S_uint8 rfl 0 rfl rfl | exact r_ldN h rfl K.u_S_uint8 rfl 1 rfl rfl | exact r_ldN h rfl K.u_S_uint8 rfl 2 rfl rfl | exact r_ldN h rfl K.u_S_uint8 rfl 3 rfl rfl | exact r_ldN h rfl K.u_S_uint8 rfl 4 rfl rfl | exact r_ldN h rfl K.u_S_uint8 rfl 5 rfl rfl | exact r_ldN h rfl K.u_S_uint8 rfl 6 rfl rfl | exact r_ldC (o := 2) h rfl K.u_S_uint8 rfl 0 rfl | exact r_ldC (o := 2) h rfl K.u_S_uint8 rfl 1 rfl | exact r_ldC (o := 2) h rfl K.u_S_uint8 rfl 2 rfl | exact r_ldC (o := 2) h rfl K.u_S_uint8 rfl 3 rfl | exact r_ldC (o := 2) h rfl K.u_S_uint8 rfl 4 rfl | exact r_ldC (o := 2) h rfl K.u_S_uint8 rfl 5 rfl | exact r_ldC (o := 2) h rfl K.u_S_uint8 rfl 6 rfl | exact r_load h rfl K.u_S_uint8 rfl 0 rfl rfl | exact r_load h rfl K.u_S_uint8 rfl 1 rfl rfl | exact r_load h rfl K.u_S_uint8 rfl 2 rfl rfl | exact r_load h rfl K.u_S_uint8 rfl 3 rfl rfl | exact r_load h rfl K.u_S_uint8 rfl 4 rfl rfl | exact r_load h rfl K.u_S_uint8 rfl 5 rfl rfl | exact r_load1 h rfl K.u_S_uint8 rfl (by assumption)) rfl ?_
            clear h a w; intro a w h
            refine wvG h (by first | exact .t rfl | exact .f rfl | exact .gt rfl | exact .gf rfl) (fun hg => by (try simp only [↓gval_on hg, ↓gval_and hg] at h); (have hg2 := hg; (try simp only [Bool.and_eq_true, Bool.or_eq_true, Bool.not_eq_true', decide_eq_true_eq, decide_eq_false_iff_not] at hg2)); first | exact r_lenB h rfl K.u_S_uint8 (by first | exact ViewsB.own 0 rfl | exact ViewsB.own 1 rfl | exact ViewsB.own 2 rfl | exact ViewsB.own 3 rfl | exact ViewsB.own 4 rfl | exact ViewsB.own 5 rfl | assumption | exact ViewsB.nil _ | exact ViewsB.arr 0 rfl (by first | assumption | rfl | (simp; done)) (Nat.le_refl _) (by simp [maxLen]) | exact ViewsB.arr 1 rfl (by first | assumption | rfl | (simp; done)) (Nat.le_refl _) (by simp [maxLen]) | exact ViewsB.arr 2 rfl (by first | assumption | rfl | (simp; done)) (Nat.le_refl _) (by simp [maxLen]) | exact ViewsB.arr 3 rfl (by first | assumption | rfl | (simp; done)) (Nat.le_refl _) (by simp [maxLen]) | exact ViewsB.arr 4 rfl (by first | assumption | rfl | (simp; done)) (Nat.le_refl _) (by simp [maxLen]) | exact ViewsB.of_drop 1 (by assumption) | exact ViewsB.of_drop 2 (by assumption) | exact ViewsB.of_drop 3 (by assumption) | exact ViewsB.of_drop 4 (by assumption) | exact ViewsB.of_drop 5 (by assumption) | exact ViewsB.of_drop 6 (by assumption) | exact ViewsB.of_drop 7 (by assumption) | exact ViewsB.of_drop 8 (by assumption) | exact ViewsB.of_drop 9 (by assumption) | exact ViewsB.of_drop 10 (by assumption) | exact ViewsB.of_drop 11 (by assumption) | exact ViewsB.of_drop 12 (by assumption) | exact ViewsB.sub (by first | exact ViewsB.own 0 rfl | exact ViewsB.own 1 rfl | exact ViewsB.own 2 rfl | exact ViewsB.own 3 rfl | exact ViewsB.own 4 rfl | exact ViewsB.own 5 rfl | assumption | exact ViewsB.nil _ | exact ViewsB.arr 0 rfl (by first | assumption | rfl | (simp; done)) (Nat.le_refl _) (by simp [maxLen]) | exact ViewsB.arr 1 rfl (by first | assumption | rfl | (simp; done)) (Nat.le_refl _) (by simp [maxLen]) | exact ViewsB.arr 2 rfl (by first | assumption | rfl | (simp; done)) (Nat.le_refl _) (by simp [maxLen]) | exact ViewsB.arr 3 rfl (by first | assumption | rfl | (simp; done)) (Nat.le_refl _) (by simp [maxLen]) | exact ViewsB.arr 4 rfl (by first | assumption | rfl | (simp; done)) (Nat.le_refl _) (by simp [maxLen]) | exact ViewsB.of_drop 1 (by assumption) | exact ViewsB.of_drop 2 (by assumption) | exact ViewsB.of_drop 3 (by assumption) | exact ViewsB.of_drop 4 (by assumption) | exact ViewsB.of_drop 5 (by assumption) | exact ViewsB.of_drop 6 (by assumption) | exact ViewsB.of_drop 7 (by assumption) | exact ViewsB.of_drop 8 (by assumption) | exact ViewsB.of_drop 9 (by assumption) | exact ViewsB.of_drop 10 (by assumption) | exact ViewsB.of_drop 11 (by assumption) | exact ViewsB.of_drop 12 (by assumption)) (by omega) (by first | omega | (simp; done) | (simp; omega)))) rfl ?_
            clear h a w; intro a w h
            refine wvG h (by first | exact .t rfl | exact .f rfl | exact .gt rfl | exact .gf rfl) (fun hg => by (try simp only [↓gval_on hg, ↓gval_and hg] at h); (have hg2 := hg; (try simp only [Bool.and_eq_true, Bool.or_eq_true, Bool.not_eq_true', decide_eq_true_eq, decide_eq_false_iff_not] at hg2)); first | exact r_bin h rfl rfl (B.gtr_int)) rfl ?_
            clear h a w; intro a w h
            first
                        | (refine wv h (r_pickA h rfl rfl rfl) rfl ?_)
                        | (refine wv h (r_pickO h rfl rfl rfl) rfl ?_)
                        | (refine wv h (r_pick_true h rfl rfl) rfl ?_)
                        | (refine wv h (r_pick_false h rfl rfl) rfl ?_)
                        | (refine wv h (r_pick h rfl rfl rfl) rfl ?_)
            clear h a w; intro a w h
            refine wnil (c_then ?_)
            first
             | refine c_condD h rfl (fun ht17 => ?_) (fun ht17 => ?_)
             | refine c_condP h rfl (by first | (simp only [Bool.and_eq_true, Bool.or_eq_true, Bool.not_eq_true', decide_eq_true_eq, decide_eq_false_iff_not, ne_eq, Bool.not_eq_eq_eq_not, Bool.not_true, beq_iff_eq, bne_iff_ne]; exact Iff.rfl) | exact Iff.rfl) (fun ht17 => ?_) (fun ht17 => ?_)
            ·
             have hif : A.at_ < 0 ∨ (D.safe.length : Int) ≤ A.at_ ∨ 64 < A.p.length := by omega
             rw [Dk.eWrite, if_pos hif, Dk.write', if_pos hif] at h
             as_aux_lemma =>
              refine c_seq ?_
              refine c_seq (c_region ?_)
              refine wv h (r_move h rfl) rfl ?_
              clear h a w; intro a w h
              refine wv h (r_bin h rfl rfl (B.neq_int)) rfl ?_
              clear h a w; intro a w h
              refine wnil (c_then ?_)
              first
               | refine c_condD h rfl (fun ht18 => ?_) (fun ht18 => ?_)
               | refine c_condP h rfl (by first | (simp only [Bool.and_eq_true, Bool.or_eq_true, Bool.not_eq_true', decide_eq_true_eq, decide_eq_false_iff_not, ne_eq, Bool.not_eq_eq_eq_not, Bool.not_true, beq_iff_eq, bne_iff_ne]; exact Iff.rfl) | exact Iff.rfl) (fun ht18 => ?_) (fun ht18 => ?_)
              ·
               exfalso
               simp at ht18
              ·
               refine c_skip ?_
               refine c_then ?_
               refine c_exit ?_
               refine e_then ?_
               refine e_here ?_
               exact ⟨⟨D, vs, T, va, vw, U, G⟩, h.mem (fun z => z.drop 1) |>.keep [1, 5, 6, 7, 9, 10, 11, 12, 13, 14], hPS⟩
            ·
             have hif : ¬ (A.at_ < 0 ∨ (D.safe.length : Int) ≤ A.at_ ∨ 64 < A.p.length) := by omega
             obtain ⟨c, hc⟩ : ∃ c : Nat, A.at_ = (c : Int) := ⟨A.at_.toNat, by omega⟩
             rw [Dk.eWrite, if_neg hif, Dk.write', if_neg hif, show A.at_.toNat = c by omega] at h
             refine c_skip ?_
             refine c_then ?_
             refine c_seq ?_
             refine c_seq (c_region ?_)
             refine wv h (r_move h rfl) rfl ?_
             clear h a w; intro a w h
             refine wnil (c_then ?_)
             first
              | refine c_condD h rfl (fun ht19 => ?_) (fun ht19 => ?_)
              | refine c_condP h rfl (by first | (simp only [Bool.and_eq_true, Bool.or_eq_true, Bool.not_eq_true', decide_eq_true_eq, decide_eq_false_iff_not, ne_eq, Bool.not_eq_eq_eq_not, Bool.not_true, beq_iff_eq, bne_iff_ne]; exact Iff.rfl) | exact Iff.rfl) (fun ht19 => ?_) (fun ht19 => ?_)
             ·
              obtain ⟨f1, f2, f3⟩ := off_facts ht19
              rw [f1, f3] at h
              as_aux_lemma =>
               refine c_seq ?_
               refine c_seq (c_region ?_)
               refine wv h (r_move h rfl) rfl ?_
               clear h a w; intro a w h
               refine wv h (r_bin h rfl rfl (B.neq_int)) rfl ?_
               clear h a w; intro a w h
               refine wnil (c_then ?_)
               first
                | refine c_condD h rfl (fun ht20 => ?_) (fun ht20 => ?_)
                | refine c_condP h rfl (by first | (simp only [Bool.and_eq_true, Bool.or_eq_true, Bool.not_eq_true', decide_eq_true_eq, decide_eq_false_iff_not, ne_eq, Bool.not_eq_eq_eq_not, Bool.not_true, beq_iff_eq, bne_iff_ne]; exact Iff.rfl) | exact Iff.rfl) (fun ht20 => ?_) (fun ht20 => ?_)
               ·
                exfalso
                simp at ht20
               ·
                refine c_skip ?_
                refine c_then ?_
                refine c_exit ?_
                refine e_then ?_
                refine e_here ?_
                exact ⟨⟨D, vs, T, va, vw, U, G⟩, h.mem (fun z => z.drop 1) |>.keep [1, 5, 6, 7, 9, 10, 11, 12, 13, 14], hPS⟩
             ·
              obtain ⟨f1, f2, f3, f4, f5, f6⟩ := write_facts (D := D) (i := c) (p := A.p) (by simpa using ht19) hd3
              have hfok := Dk.write'_ok hok hac9 A.at_ A.p
              rw [Dk.write', if_neg hif, show A.at_.toNat = c by omega] at hfok
              rw [f1, show (if decide (D.left ≠ 0) = true then (0 : Int) else 9) = if D.left = 0 then 9 else 0 by by_cases q : D.left = 0 <;> simp [q]] at h
              generalize D.write c A.p = D2 at *
              refine c_skip ?_
              refine c_then ?_
              refine c_seq (c_region ?_)
              refine wv h (r_move h rfl) rfl ?_
              clear h a w; intro a w h
              refine wv h (r_bin h rfl rfl (B.add_i64 (by omega) (by omega))) rfl ?_
              clear h a w; intro a w h
              refine wv h (r_assign h rfl) rfl ?_
              clear h a w; intro a w h
              refine wnil (c_then ?_)
              refine c_seq (c_region ?_)
              refine wv h (r_move h rfl) rfl ?_
              clear h a w; intro a w h
              refine wv h (r_bin h rfl rfl (B.eql_int)) rfl ?_
              clear h a w; intro a w h
              refine wv h (r_assign h rfl) rfl ?_
              clear h a w; intro a w h
              refine wnil (c_then ?_)
              refine c_meet h (X := Unit) (fun _ => [(1, av), (5, .int .i64 (i : Int)), (6, dp b), (7, vs), (9, va), (10, vw), (11, .int .i64 D2.left), (12, .bool (decide (D.left = 0))), (13, .int .i64 D2.acts), (14, .int .i64 (m : Int)), (15, .pointer (some ⟨b15, 0, none⟩)), (19, .int .i64 (if D.left = 0 then 9 else 0))])
                (fun _ => Blk b15 (.cells ⟨cellsDA A⟩ t_interleaflaw04_Act) :: DiskI b D2 :: OwnL id vs T :: OwnL (Value.int .i64) va (wetI D) :: OwnL id vw U :: (G ++ F)) (fun _ => True) ?_ ?_
              ·
               refine c_seq (c_region ?_)
               refine wv h (r_move h rfl) rfl ?_
               clear h a w; intro a w h
               refine wv h (r_bin h rfl rfl (B.gtr_int)) rfl ?_
               clear h a w; intro a w h
               refine wnil (c_then ?_)
               first
                | refine c_condD h rfl (fun ht21 => ?_) (fun ht21 => ?_)
                | refine c_condP h rfl (by first | (simp only [Bool.and_eq_true, Bool.or_eq_true, Bool.not_eq_true', decide_eq_true_eq, decide_eq_false_iff_not, ne_eq, Bool.not_eq_eq_eq_not, Bool.not_true, beq_iff_eq, bne_iff_ne]; exact Iff.rfl) | exact Iff.rfl) (fun ht21 => ?_) (fun ht21 => ?_)
               ·
                as_aux_lemma =>
                 refine c_region ?_
                 refine wv h (r_move h rfl) rfl ?_
                 clear h a w; intro a w h
                 refine wv h (r_bin h rfl rfl (B.sub_i64 (by omega) (by omega))) rfl ?_
                 clear h a w; intro a w h
                 refine wv h (r_assign h rfl) rfl ?_
                 clear h a w; intro a w h
                 refine wnil ?_
                 rw [show D.left - 1 = D2.left by rw [f3, if_pos ht21], ← f4] at h
                 exact ⟨(), h.keep [1, 5, 6, 7, 9, 10, 11, 12, 13, 14, 15, 19], trivial⟩
               ·
                refine c_skip ?_
                replace h := h.keep [1, 5, 6, 7, 9, 10, 11, 12, 13, 14, 15, 19]
                rw [show Value.int .i64 D.left = Value.int .i64 D2.left by rw [f3, if_neg ht21], ← f4] at h
                exact ⟨(), h, trivial⟩
              ·
               clear h a w; intro z a w hz h
               refine c_seq ?_
               refine c_seq (c_region ?_)
               refine wv h (r_move h rfl) rfl ?_
               clear h a w; intro a w h
               refine wv h (r_move h rfl) rfl ?_
               clear h a w; intro a w h
               refine wv h (r_bin h rfl rfl (B.eql_int)) rfl ?_
               clear h a w; intro a w h
               refine wv h (r_boolne h K.u_bool rfl rfl) rfl ?_
               clear h a w; intro a w h
               refine wv h (r_move h rfl) rfl ?_
               clear h a w; intro a w h
               refine wvG h (by first | exact .t rfl | exact .f rfl | exact .gt rfl | exact .gf rfl) (fun hg => by (try simp only [↓gval_on hg, ↓gval_and hg] at h); (have hg2 := hg; (try simp only [Bool.and_eq_true, Bool.or_eq_true, Bool.not_eq_true', decide_eq_true_eq, decide_eq_false_iff_not] at hg2)); first | exact r_move h rfl) rfl ?_
               clear h a w; intro a w h
               refine wvG h (by first | exact .t rfl | exact .f rfl | exact .gt rfl | exact .gf rfl) (fun hg => by (try simp only [↓gval_on hg, ↓gval_and hg] at h); (have hg2 := hg; (try simp only [Bool.and_eq_true, Bool.or_eq_true, Bool.not_eq_true', decide_eq_true_eq, decide_eq_false_iff_not] at hg2)); first | exact r_not h rfl) rfl ?_
               clear h a w; intro a w h
               refine wvG h (by first | exact .t rfl | exact .f rfl | exact .gt rfl | exact .gf rfl) (fun hg => by (try simp only [↓gval_on hg, ↓gval_and hg] at h); (have hg2 := hg; (try simp only [Bool.and_eq_true, Bool.or_eq_true, Bool.not_eq_true', decide_eq_true_eq, decide_eq_false_iff_not] at hg2)); first | exact r_move h rfl) rfl ?_
               clear h a w; intro a w h
               refine wvG h (by first | exact .t rfl | exact .f rfl | exact .gt rfl | exact .gf rfl) (fun hg => by (try simp only [↓gval_on hg, ↓gval_and hg] at h); (have hg2 := hg; (try simp only [Bool.and_eq_true, Bool.or_eq_true, Bool.not_eq_true', decide_eq_true_eq, decide_eq_false_iff_not] at hg2)); first | exact r_move h rfl) rfl ?_
               clear h a w; intro a w h
               refine wvG h (by first | exact .t rfl | exact .f rfl | exact .gt rfl | exact .gf rfl) (fun hg => by (try simp only [↓gval_on hg, ↓gval_and hg] at h); (have hg2 := hg; (try simp only [Bool.and_eq_true, Bool.or_eq_true, Bool.not_eq_true', decide_eq_true_eq, decide_eq_false_iff_not] at hg2)); first | exact r_bin h rfl rfl (B.neq_int)) rfl ?_
               clear h a w; intro a w h
               refine wvG h (by first | exact .t rfl | exact .f rfl | exact .gt rfl | exact .gf rfl) (fun hg => by (try simp only [↓gval_on hg, ↓gval_and hg] at h); (have hg2 := hg; (try simp only [Bool.and_eq_true, Bool.or_eq_true, Bool.not_eq_true', decide_eq_true_eq, decide_eq_false_iff_not] at hg2)); first | exact r_pickA h rfl rfl rfl | exact r_pickO h rfl rfl rfl | exact r_pick_true h rfl rfl | exact r_pick_false h rfl rfl | exact r_pick h rfl rfl rfl) rfl ?_
               clear h a w; intro a w h
               first
                              | (refine wv h (r_pickA h rfl rfl rfl) rfl ?_)
                              | (refine wv h (r_pickO h rfl rfl rfl) rfl ?_)
                              | (refine wv h (r_pick_true h rfl rfl) rfl ?_)
                              | (refine wv h (r_pick_false h rfl rfl) rfl ?_)
                              | (refine wv h (r_pick h rfl rfl rfl) rfl ?_)
               clear h a w; intro a w h
               refine wnil (c_then ?_)
               first
                | refine c_condD h rfl (fun ht22 => ?_) (fun ht22 => ?_)
                | refine c_condP h rfl (by first | (simp only [Bool.and_eq_true, Bool.or_eq_true, Bool.not_eq_true', decide_eq_true_eq, decide_eq_false_iff_not, ne_eq, Bool.not_eq_eq_eq_not, Bool.not_true, beq_iff_eq, bne_iff_ne]; exact Iff.rfl) | exact Iff.rfl) (fun ht22 => ?_) (fun ht22 => ?_)
               ·
                exfalso
                by_cases q : D.left = 0 <;> simp [q] at ht22
               ·
                refine c_skip ?_
                refine c_then ?_
                refine c_seq (c_region ?_)
                refine wv h (r_move h rfl) rfl ?_
                clear h a w; intro a w h
                refine wv h (r_fieldAddr h 1 rfl K.u_interleaflaw04_Act rfl K.sz_int rfl rfl) rfl ?_
                clear h a w; intro a w h
                first
                                | (refine wv h (r_ldN h rfl K.u_int rfl 0 rfl rfl) rfl ?_)
                                | (refine wv h (r_ldN h rfl K.u_int rfl 1 rfl rfl) rfl ?_)
                                | (refine wv h (r_ldN h rfl K.u_int rfl 2 rfl rfl) rfl ?_)
                                | (refine wv h (r_ldN h rfl K.u_int rfl 3 rfl rfl) rfl ?_)
                                | (refine wv h (r_ldN h rfl K.u_int rfl 4 rfl rfl) rfl ?_)
                                | (refine wv h (r_ldN h rfl K.u_int rfl 5 rfl rfl) rfl ?_)
                                | (refine wv h (r_ldN h rfl K.u_int rfl 6 rfl rfl) rfl ?_)
                                | (refine wv h (r_ldC (o := 1) h rfl K.u_int rfl 0 rfl) rfl ?_)
                                | (refine wv h (r_ldC (o := 1) h rfl K.u_int rfl 1 rfl) rfl ?_)
                                | (refine wv h (r_ldC (o := 1) h rfl K.u_int rfl 2 rfl) rfl ?_)
                                | (refine wv h (r_ldC (o := 1) h rfl K.u_int rfl 3 rfl) rfl ?_)
                                | (refine wv h (r_ldC (o := 1) h rfl K.u_int rfl 4 rfl) rfl ?_)
                                | (refine wv h (r_ldC (o := 1) h rfl K.u_int rfl 5 rfl) rfl ?_)
                                | (refine wv h (r_ldC (o := 1) h rfl K.u_int rfl 6 rfl) rfl ?_)
                                | (refine wv h (r_load h rfl K.u_int rfl 0 rfl rfl) rfl ?_)
                                | (refine wv h (r_load h rfl K.u_int rfl 1 rfl rfl) rfl ?_)
                                | (refine wv h (r_load h rfl K.u_int rfl 2 rfl rfl) rfl ?_)
                                | (refine wv h (r_load h rfl K.u_int rfl 3 rfl rfl) rfl ?_)
                                | (refine wv h (r_load h rfl K.u_int rfl 4 rfl rfl) rfl ?_)
                                | (refine wv h (r_load h rfl K.u_int rfl 5 rfl rfl) rfl ?_)
                                | (refine wv h (r_load1 h rfl K.u_int rfl (by assumption)) rfl ?_)
                clear h a w; intro a w h
                refine wl rfl (op_buildSlice h K.u_S_int K.sz_int K.z_int rfl rfl rfl rfl rfl (by simp [Value.cells, bv, w32, w64, sv]) rfl ?_)
                clear h a w; intro b115 a w h
                first
                                | (refine wl rfl (op_appendL1 (enc := (Value.int .i64)) h rfl rfl rfl K.u_S_int K.sz_int K.z_int rfl rfl 0 rfl (by first | omega | (simp only [List.length_cons, List.length_nil]; omega) | (simp; done) | (simp; omega)) rfl ?_))
                                | (refine wl rfl (op_appendL1 (enc := (Value.int .i64)) h rfl rfl rfl K.u_S_int K.sz_int K.z_int rfl rfl 1 rfl (by first | omega | (simp only [List.length_cons, List.length_nil]; omega) | (simp; done) | (simp; omega)) rfl ?_))
                                | (refine wl rfl (op_appendL1 (enc := (Value.int .i64)) h rfl rfl rfl K.u_S_int K.sz_int K.z_int rfl rfl 2 rfl (by first | omega | (simp only [List.length_cons, List.length_nil]; omega) | (simp; done) | (simp; omega)) rfl ?_))
                                | (refine wl rfl (op_appendL1 (enc := (Value.int .i64)) h rfl rfl rfl K.u_S_int K.sz_int K.z_int rfl rfl 3 rfl (by first | omega | (simp only [List.length_cons, List.length_nil]; omega) | (simp; done) | (simp; omega)) rfl ?_))
                                | (refine wl rfl (op_appendL1 (enc := (Value.int .i64)) h rfl rfl rfl K.u_S_int K.sz_int K.z_int rfl rfl 4 rfl (by first | omega | (simp only [List.length_cons, List.length_nil]; omega) | (simp; done) | (simp; omega)) rfl ?_))
                                | (refine wl rfl (op_appendL1 (enc := (Value.int .i64)) h rfl rfl rfl K.u_S_int K.sz_int K.z_int rfl rfl 5 rfl (by first | omega | (simp only [List.length_cons, List.length_nil]; omega) | (simp; done) | (simp; omega)) rfl ?_))
                clear h a w; intro v116 a w h
                (try simp only [List.set_cons_zero, List.set_cons_succ] at h)
                refine wv h (r_assign h rfl) rfl ?_
                clear h a w; intro a w h
                replace h := h.front 4 rfl
                refine wnil (c_then ?_)
                refine c_drawn 12 K.mixed rfl h ?_
                clear h a w; intro a w h
                have hD : Paid s w [] := Paid.nil
                refine d_take0 (listed' := #[true, false, false, false, false, false, false, false, false, false, false, false]) h hD 0 (by as_aux_lemma => kernel_rfl) rfl (by as_aux_lemma => kernel_rfl) (by as_aux_lemma => kernel_rfl) (by as_aux_lemma => kernel_rfl) (fun _ _ _ _ hh => hh) (fun w h => by first | exact r_move h rfl) rfl ?_
                clear hD h a w; intro a w h hD
                refine d_take0 (listed' := #[true, true, false, false, false, false, false, false, false, false, false, false]) h hD 1 (by as_aux_lemma => kernel_rfl) rfl (by as_aux_lemma => kernel_rfl) (by as_aux_lemma => kernel_rfl) (by as_aux_lemma => kernel_rfl) (fun _ _ _ _ hh => hh) (fun w h => by first | exact r_fieldAddr h 2 rfl K.u_interleaflaw04_Act rfl K.sz_S_uint8 rfl rfl) rfl ?_
                clear hD h a w; intro a w h hD
                refine d_take (listed' := #[true, true, true, false, false, false, false, false, false, false, false, false]) h hD 2 ((Blk b15 (.cells ⟨cellsDA A⟩ t_interleaflaw04_Act) :: DiskI b D2 :: OwnL id vs T :: OwnL (Value.int .i64) v116 (wetI D ++ [A.at_]) :: (G ++ F))) (by as_aux_lemma => kernel_rfl) rfl (by as_aux_lemma => kernel_rfl) (by as_aux_lemma => kernel_rfl) (by as_aux_lemma => kernel_rfl) (fun _ _ _ _ hh => hh) (by first | exact h.2 | exact h.2.drop 1 | exact h.2.drop 2 | exact h.2.drop 3 | exact h.2.drop 4 | exact h.2.drop 5 | exact h.2.drop 6 | exact h.2.drop 7) (fun w hw => by first | exact r_ldN ⟨h.1, hw⟩ rfl K.u_S_uint8 rfl 0 rfl rfl | exact r_ldN ⟨h.1, hw⟩ rfl K.u_S_uint8 rfl 1 rfl rfl | exact r_ldN ⟨h.1, hw⟩ rfl K.u_S_uint8 rfl 2 rfl rfl | exact r_ldN ⟨h.1, hw⟩ rfl K.u_S_uint8 rfl 3 rfl rfl | exact r_ldN ⟨h.1, hw⟩ rfl K.u_S_uint8 rfl 4 rfl rfl | exact r_ldN ⟨h.1, hw⟩ rfl K.u_S_uint8 rfl 5 rfl rfl | exact r_ldN ⟨h.1, hw⟩ rfl K.u_S_uint8 rfl 6 rfl rfl | exact r_ldC (o := 2) ⟨h.1, hw⟩ rfl K.u_S_uint8 rfl 0 rfl | exact r_ldC (o := 2) ⟨h.1, hw⟩ rfl K.u_S_uint8 rfl 1 rfl | exact r_ldC (o := 2) ⟨h.1, hw⟩ rfl K.u_S_uint8 rfl 2 rfl | exact r_ldC (o := 2) ⟨h.1, hw⟩ rfl K.u_S_uint8 rfl 3 rfl | exact r_ldC (o := 2) ⟨h.1, hw⟩ rfl K.u_S_uint8 rfl 4 rfl | exact r_ldC (o := 2) ⟨h.1, hw⟩ rfl K.u_S_uint8 rfl 5 rfl | exact r_ldC (o := 2) ⟨h.1, hw⟩ rfl K.u_S_uint8 rfl 6 rfl | exact r_load ⟨h.1, hw⟩ rfl K.u_S_uint8 rfl 0 rfl rfl | exact r_load ⟨h.1, hw⟩ rfl K.u_S_uint8 rfl 1 rfl rfl | exact r_load ⟨h.1, hw⟩ rfl K.u_S_uint8 rfl 2 rfl rfl | exact r_load ⟨h.1, hw⟩ rfl K.u_S_uint8 rfl 3 rfl rfl | exact r_load ⟨h.1, hw⟩ rfl K.u_S_uint8 rfl 4 rfl rfl | exact r_load ⟨h.1, hw⟩ rfl K.u_S_uint8 rfl 5 rfl rfl | exact r_load1 ⟨h.1, hw⟩ rfl K.u_S_uint8 rfl (by assumption)) rfl ?_
                clear hD h a w; intro a w h hD
                refine d_take0 (listed' := #[true, true, true, false, true, false, false, false, false, false, false, false]) h hD 4 (by as_aux_lemma => kernel_rfl) rfl (by as_aux_lemma => kernel_rfl) (by as_aux_lemma => kernel_rfl) (by as_aux_lemma => kernel_rfl) (fun _ _ _ _ hh => hh) (fun w h => by first | exact r_fieldAddr h 2 rfl K.u_interleaflaw04_Act rfl K.sz_S_uint8 rfl rfl) rfl ?_
                clear hD h a w; intro a w h hD
                refine d_take (listed' := #[true, true, true, false, true, true, false, false, false, false, false, false]) h hD 5 ((Blk b15 (.cells ⟨cellsDA A⟩ t_interleaflaw04_Act) :: DiskI b D2 :: OwnL id vs T :: OwnL (Value.int .i64) v116 (wetI D ++ [A.at_]) :: (G ++ F))) (by as_aux_lemma => kernel_rfl) rfl (by as_aux_lemma => kernel_rfl) (by as_aux_lemma => kernel_rfl) (by as_aux_lemma => kernel_rfl) (fun _ _ _ _ hh => hh) (by first | exact h.2 | exact h.2.drop 1 | exact h.2.drop 2 | exact h.2.drop 3 | exact h.2.drop 4 | exact h.2.drop 5 | exact h.2.drop 6 | exact h.2.drop 7) (fun w hw => by first | exact r_ldN ⟨h.1, hw⟩ rfl K.u_S_uint8 rfl 0 rfl rfl | exact r_ldN ⟨h.1, hw⟩ rfl K.u_S_uint8 rfl 1 rfl rfl | exact r_ldN ⟨h.1, hw⟩ rfl K.u_S_uint8 rfl 2 rfl rfl | exact r_ldN ⟨h.1, hw⟩ rfl K.u_S_uint8 rfl 3 rfl rfl | exact r_ldN ⟨h.1, hw⟩ rfl K.u_S_uint8 rfl 4 rfl rfl | exact r_ldN ⟨h.1, hw⟩ rfl K.u_S_uint8 rfl 5 rfl rfl | exact r_ldN ⟨h.1, hw⟩ rfl K.u_S_uint8 rfl 6 rfl rfl | exact r_ldC (o := 2) ⟨h.1, hw⟩ rfl K.u_S_uint8 rfl 0 rfl | exact r_ldC (o := 2) ⟨h.1, hw⟩ rfl K.u_S_uint8 rfl 1 rfl | exact r_ldC (o := 2) ⟨h.1, hw⟩ rfl K.u_S_uint8 rfl 2 rfl | exact r_ldC (o := 2) ⟨h.1, hw⟩ rfl K.u_S_uint8 rfl 3 rfl | exact r_ldC (o := 2) ⟨h.1, hw⟩ rfl K.u_S_uint8 rfl 4 rfl | exact r_ldC (o := 2) ⟨h.1, hw⟩ rfl K.u_S_uint8 rfl 5 rfl | exact r_ldC (o := 2) ⟨h.1, hw⟩ rfl K.u_S_uint8 rfl 6 rfl | exact r_load ⟨h.1, hw⟩ rfl K.u_S_uint8 rfl 0 rfl rfl | exact r_load ⟨h.1, hw⟩ rfl K.u_S_uint8 rfl 1 rfl rfl | exact r_load ⟨h.1, hw⟩ rfl K.u_S_uint8 rfl 2 rfl rfl | exact r_load ⟨h.1, hw⟩ rfl K.u_S_uint8 rfl 3 rfl rfl | exact r_load ⟨h.1, hw⟩ rfl K.u_S_uint8 rfl 4 rfl rfl | exact r_load ⟨h.1, hw⟩ rfl K.u_S_uint8 rfl 5 rfl rfl | exact r_load1 ⟨h.1, hw⟩ rfl K.u_S_uint8 rfl (by assumption)) rfl ?_
                clear hD h a w; intro a w h hD
                refine d_take (listed' := #[true, true, true, false, true, true, true, false, false, false, false, false]) h hD 6 ((Blk b15 (.cells ⟨cellsDA A⟩ t_interleaflaw04_Act) :: DiskI b D2 :: OwnL id vs T :: OwnL (Value.int .i64) v116 (wetI D ++ [A.at_]) :: (G ++ F))) (by as_aux_lemma => kernel_rfl) rfl (by as_aux_lemma => kernel_rfl) (by as_aux_lemma => kernel_rfl) (by as_aux_lemma => kernel_rfl) (fun _ _ _ _ hh => hh) (by first | exact h.2 | exact h.2.drop 1 | exact h.2.drop 2 | exact h.2.drop 3 | exact h.2.drop 4 | exact h.2.drop 5 | exact h.2.drop 6 | exact h.2.drop 7) (fun w hw => by first | exact r_lenB ⟨h.1, hw⟩ rfl K.u_S_uint8 (by first | exact ViewsB.own 0 rfl | exact ViewsB.own 1 rfl | exact ViewsB.own 2 rfl | exact ViewsB.own 3 rfl | exact ViewsB.own 4 rfl | exact ViewsB.own 5 rfl | assumption | exact ViewsB.nil _ | exact ViewsB.arr 0 rfl (by first | assumption | rfl | (simp; done)) (Nat.le_refl _) (by simp [maxLen]) | exact ViewsB.arr 1 rfl (by first | assumption | rfl | (simp; done)) (Nat.le_refl _) (by simp [maxLen]) | exact ViewsB.arr 2 rfl (by first | assumption | rfl | (simp; done)) (Nat.le_refl _) (by simp [maxLen]) | exact ViewsB.arr 3 rfl (by first | assumption | rfl | (simp; done)) (Nat.le_refl _) (by simp [maxLen]) | exact ViewsB.arr 4 rfl (by first | assumption | rfl | (simp; done)) (Nat.le_refl _) (by simp [maxLen]) | exact ViewsB.of_drop 1 (by assumption) | exact ViewsB.of_drop 2 (by assumption) | exact ViewsB.of_drop 3 (by assumption) | exact ViewsB.of_drop 4 (by assumption) | exact ViewsB.of_drop 5 (by assumption) | exact ViewsB.of_drop 6 (by assumption) | exact ViewsB.of_drop 7 (by assumption) | exact ViewsB.of_drop 8 (by assumption) | exact ViewsB.of_drop 9 (by assumption) | exact ViewsB.of_drop 10 (by assumption) | exact ViewsB.of_drop 11 (by assumption) | exact ViewsB.of_drop 12 (by assumption) | exact ViewsB.sub (by first | exact ViewsB.own 0 rfl | exact ViewsB.own 1 rfl | exact ViewsB.own 2 rfl | exact ViewsB.own 3 rfl | exact ViewsB.own 4 rfl | exact ViewsB.own 5 rfl | assumption | exact ViewsB.nil _ | exact ViewsB.arr 0 rfl (by first | assumption | rfl | (simp; done)) (Nat.le_refl _) (by simp [maxLen]) | exact ViewsB.arr 1 rfl (by first | assumption | rfl | (simp; done)) (Nat.le_refl _) (by simp [maxLen]) | exact ViewsB.arr 2 rfl (by first | assumption | rfl | (simp; done)) (Nat.le_refl _) (by simp [maxLen]) | exact ViewsB.arr 3 rfl (by first | assumption | rfl | (simp; done)) (Nat.le_refl _) (by simp [maxLen]) | exact ViewsB.arr 4 rfl (by first | assumption | rfl | (simp; done)) (Nat.le_refl _) (by simp [maxLen]) | exact ViewsB.of_drop 1 (by assumption) | exact ViewsB.of_drop 2 (by assumption) | exact ViewsB.of_drop 3 (by assumption) | exact ViewsB.of_drop 4 (by assumption) | exact ViewsB.of_drop 5 (by assumption) | exact ViewsB.of_drop 6 (by assumption) | exact ViewsB.of_drop 7 (by assumption) | exact ViewsB.of_drop 8 (by assumption) | exact ViewsB.of_drop 9 (by assumption) | exact ViewsB.of_drop 10 (by assumption) | exact ViewsB.of_drop 11 (by assumption) | exact ViewsB.of_drop 12 (by assumption)) (by omega) (by first | omega | (simp; done) | (simp; omega)))) rfl ?_
                clear hD h a w; intro a w h hD
                refine d_take0 (listed' := #[true, true, true, false, true, true, true, true, false, false, false, false]) h hD 7 (by as_aux_lemma => kernel_rfl) rfl (by as_aux_lemma => kernel_rfl) (by as_aux_lemma => kernel_rfl) (by as_aux_lemma => kernel_rfl) (fun _ _ _ _ hh => hh) (fun w h => by first | exact r_bin h rfl rfl (B.sub_i64 (by omega) (by omega))) rfl ?_
                clear hD h a w; intro a w h hD
                rw [show (64 : Int) - (A.p.length : Int) = ((64 - A.p.length : Nat) : Int) by omega] at h
                refine d_only (listed' := #[true, true, true, true, true, true, true, true, false, false, false, false]) 3 [true, true, false] (by as_aux_lemma => kernel_rfl) rfl rfl (by as_aux_lemma => kernel_rfl) (by as_aux_lemma => kernel_rfl) ?_
                refine op_appendnbs h rfl rfl K.u_S_uint8 K.sz_uint8 K.z_uint8 rfl rfl (Src.bytes K.u_S_uint8 (by first | exact ViewsB.own 0 rfl | exact ViewsB.own 1 rfl | exact ViewsB.own 2 rfl | exact ViewsB.own 3 rfl | exact ViewsB.own 4 rfl | exact ViewsB.own 5 rfl | assumption | exact ViewsB.nil _ | exact ViewsB.arr 0 rfl (by first | assumption | rfl | (simp; done)) (Nat.le_refl _) (by simp [maxLen]) | exact ViewsB.arr 1 rfl (by first | assumption | rfl | (simp; done)) (Nat.le_refl _) (by simp [maxLen]) | exact ViewsB.arr 2 rfl (by first | assumption | rfl | (simp; done)) (Nat.le_refl _) (by simp [maxLen]) | exact ViewsB.arr 3 rfl (by first | assumption | rfl | (simp; done)) (Nat.le_refl _) (by simp [maxLen]) | exact ViewsB.arr 4 rfl (by first | assumption | rfl | (simp; done)) (Nat.le_refl _) (by simp [maxLen]) | exact ViewsB.of_drop 1 (by assumption) | exact ViewsB.of_drop 2 (by assumption) | exact ViewsB.of_drop 3 (by assumption) | exact ViewsB.of_drop 4 (by assumption) | exact ViewsB.of_drop 5 (by assumption) | exact ViewsB.of_drop 6 (by assumption) | exact ViewsB.of_drop 7 (by assumption) | exact ViewsB.of_drop 8 (by assumption) | exact ViewsB.of_drop 9 (by assumption) | exact ViewsB.of_drop 10 (by assumption) | exact ViewsB.of_drop 11 (by assumption) | exact ViewsB.of_drop 12 (by assumption) | exact ViewsB.sub (by first | exact ViewsB.own 0 rfl | exact ViewsB.own 1 rfl | exact ViewsB.own 2 rfl | exact ViewsB.own 3 rfl | exact ViewsB.own 4 rfl | exact ViewsB.own 5 rfl | assumption | exact ViewsB.nil _ | exact ViewsB.arr 0 rfl (by first | assumption | rfl | (simp; done)) (Nat.le_refl _) (by simp [maxLen]) | exact ViewsB.arr 1 rfl (by first | assumption | rfl | (simp; done)) (Nat.le_refl _) (by simp [maxLen]) | exact ViewsB.arr 2 rfl (by first | assumption | rfl | (simp; done)) (Nat.le_refl _) (by simp [maxLen]) | exact ViewsB.arr 3 rfl (by first | assumption | rfl | (simp; done)) (Nat.le_refl _) (by simp [maxLen]) | exact ViewsB.arr 4 rfl (by first | assumption | rfl | (simp; done)) (Nat.le_refl _) (by simp [maxLen]) | exact ViewsB.of_drop 1 (by assumption) | exact ViewsB.of_drop 2 (by assumption) | exact ViewsB.of_drop 3 (by assumption) | exact ViewsB.of_drop 4 (by assumption) | exact ViewsB.of_drop 5 (by assumption) | exact ViewsB.of_drop 6 (by assumption) | exact ViewsB.of_drop 7 (by assumption) | exact ViewsB.of_drop 8 (by assumption) | exact ViewsB.of_drop 9 (by assumption) | exact ViewsB.of_drop 10 (by assumption) | exact ViewsB.of_drop 11 (by assumption) | exact ViewsB.of_drop 12 (by assumption)) (by omega) (by first | omega | (simp; done) | (simp; omega))) h.2) (by first | omega | (simp only [List.length_cons, List.length_nil]; omega) | (simp; done) | (simp; omega)) rfl ?_
                clear hD h a w; intro v120 a w h
                refine d_pay (Paid.cons (by first | exact h.2 | exact h.2.drop 1 | exact h.2.drop 2 | exact h.2.drop 3 | exact h.2.drop 4 | exact h.2.drop 5 | exact h.2.drop 6 | exact h.2.drop 7) (Paid.cons (by first | exact h.2 | exact h.2.drop 1 | exact h.2.drop 2 | exact h.2.drop 3 | exact h.2.drop 4 | exact h.2.drop 5 | exact h.2.drop 6 | exact h.2.drop 7) (Paid.nil))) (fun hD => ?_)
                refine d_only (listed' := #[true, true, true, true, true, true, true, true, true, false, false, false]) 8 [true, true] (by as_aux_lemma => kernel_rfl) rfl rfl (by as_aux_lemma => kernel_rfl) (by as_aux_lemma => kernel_rfl) ?_
                refine op_appendz (m := 64 - A.p.length) h rfl rfl K.u_S_uint8 K.sz_uint8 K.z_uint8 rfl K.u_int 0 rfl (by omega) rfl ?_
                clear hD h a w; intro v125 a w h
                (try simp only [List.set_cons_zero, List.set_cons_succ] at h)
                refine d_pay (Paid.cons (by first | exact h.2 | exact h.2.drop 1 | exact h.2.drop 2 | exact h.2.drop 3 | exact h.2.drop 4 | exact h.2.drop 5 | exact h.2.drop 6 | exact h.2.drop 7) (Paid.cons (by first | exact h.2 | exact h.2.drop 1 | exact h.2.drop 2 | exact h.2.drop 3 | exact h.2.drop 4 | exact h.2.drop 5 | exact h.2.drop 6 | exact h.2.drop 7) (Paid.nil))) (fun hD => ?_)
                refine d_only (listed' := #[true, true, true, true, true, true, true, true, true, true, false, false]) 9 [true, true] (by as_aux_lemma => kernel_rfl) rfl rfl (by as_aux_lemma => kernel_rfl) (by as_aux_lemma => kernel_rfl) ?_
                refine op_buildO h K.u_S_S_uint8 K.sz_S_uint8 K.z_S_uint8 rfl rfl rfl rfl (by simp only [List.mem_cons, List.not_mem_nil, or_false, forall_eq_or_imp, forall_eq]; (repeat' apply And.intro) <;> first | rfl | assumption | exact Views.oneCell (Views.own 0 rfl) h.2 | exact Views.oneCell (Views.own 1 rfl) h.2 | exact Views.oneCell (Views.own 2 rfl) h.2 | exact Views.oneCell (Views.own 3 rfl) h.2 | exact Views.oneCell (Views.own 4 rfl) h.2 | exact Views.oneCell (Views.own 5 rfl) h.2 | exact Views.oneCell (Views.own 6 rfl) h.2 | exact Views.oneCell (Views.own 7 rfl) h.2 | exact Views.oneCell (by assumption) h.2) rfl ?_
                clear hD h a w; intro b126 a w h
                refine d_pay (Paid.cons (by first | exact h.2 | exact h.2.drop 1 | exact h.2.drop 2 | exact h.2.drop 3 | exact h.2.drop 4 | exact h.2.drop 5 | exact h.2.drop 6 | exact h.2.drop 7) (Paid.cons (by first | exact h.2 | exact h.2.drop 1 | exact h.2.drop 2 | exact h.2.drop 3 | exact h.2.drop 4 | exact h.2.drop 5 | exact h.2.drop 6 | exact h.2.drop 7) (Paid.nil))) (fun hD => ?_)
                refine d_only (listed' := #[true, true, true, true, true, true, true, true, true, true, true, false]) 10 [true, true] (by as_aux_lemma => kernel_rfl) rfl rfl (by as_aux_lemma => kernel_rfl) (by as_aux_lemma => kernel_rfl) ?_
                refine op_appendL1R (enc := id) (u := v125) h (Views.oneCell (ViewsB.own 1 rfl) h.2) rfl rfl K.u_S_S_uint8 K.sz_S_uint8 K.z_S_uint8 rfl rfl 1 rfl (by omega) rfl ?_
                clear hD h a w; intro v127 a w hR h
                (try simp only [List.set_cons_zero, List.set_cons_succ] at h)
                clear hR
                refine d_pay (Paid.cons (by first | exact h.2 | exact h.2.drop 1 | exact h.2.drop 2 | exact h.2.drop 3 | exact h.2.drop 4 | exact h.2.drop 5 | exact h.2.drop 6 | exact h.2.drop 7) (Paid.cons (by first | exact h.2 | exact h.2.drop 1 | exact h.2.drop 2 | exact h.2.drop 3 | exact h.2.drop 4 | exact h.2.drop 5 | exact h.2.drop 6 | exact h.2.drop 7) (Paid.nil))) (fun hD => ?_)
                refine d_take0 (listed' := #[true, true, true, true, true, true, true, true, true, true, true, true]) h hD 11 (by as_aux_lemma => kernel_rfl) rfl (by as_aux_lemma => kernel_rfl) (by as_aux_lemma => kernel_rfl) (by as_aux_lemma => kernel_rfl) (fun _ _ _ _ hh => hh) (fun w h => by first | exact r_assign h rfl) rfl ?_
                clear hD h a w; intro a w h hD
                refine d_done (by kernel_rfl) ?_
                clear hD
                refine b_normal ?_
                have hcl : c < i := by omega
                have hcw : wetI D2 = wetI D ++ [A.at_] := by rw [wetI, f6, List.map_append, hc]; rfl
                replace h := h.mem (fun z => ((z.rid 2).back 4 (by show 4 ≤ (G ++ F).length + 4; omega)).back 3 (by show 3 ≤ (G ++ F).length + 4; omega))
                refine ⟨⟨D2, vs, T, v116, v127, U ++ [v125], OwnB v125 (A.p ++ List.replicate (64 - A.p.length) 0) :: G⟩, ?_, hfok.1, by have := hfok.2; dsimp only; omega, by show D2.safe.length = i; rw [f5]; exact hsl, ⟨by rw [f5]; exact hsv.1, fun j u hu => ?_⟩, by show (U ++ [v125]).length = D2.wet.length; rw [f6]; simp [hwl], fun j u q hu hq => ?_⟩
                · dsimp only
                  rw [hcw, f2]
                  exact h.keep [1, 5, 6, 7, 9, 10, 11, 12, 13, 14]
                · dsimp only
                  rw [f5]
                  exact (hsv.2 j u hu).cons _
                · dsimp only at hu hq ⊢
                  rw [f6] at hq
                  rcases Nat.lt_or_ge j D.wet.length with e | e
                  · rw [List.getElem?_append_left (by omega)] at hu hq
                    exact (hwv j u q hu hq).cons _
                  · have hj : j < D.wet.length + 1 := by have := (List.getElem?_eq_some_iff.1 hq).1; simpa using this
                    obtain rfl : j = D.wet.length := by omega
                    rw [List.getElem?_append_right (by omega)] at hu hq
                    simp [hwl] at hu hq
                    subst hu hq
                    rw [B64.of_val (by omega)]
                    exact ViewsB.own 0 rfl
        ·
         clear h a w; intro z a w hz h
         clear hPS hok hac hsl hsv hwl hwv havG hAvG hd1 hd2 hd3 hd4 hd5 hd6 hac9 hwil
         obtain ⟨D1, vs1, T1, va1, vw1, U1, G1⟩ := z
         obtain ⟨hok, hac, hsl, hsv, hwl, hwv⟩ := hz
         dsimp only at hok hac hsl hsv hwl hwv h
         have hwil := wetI_len D1
         have hT1 := hsv.1
         have hd5 := hok.2.2.2.2.1
         refine c_seq ?_
         refine c_seq (c_region ?_)
         refine wv h (r_move h rfl) rfl ?_
         clear h a w; intro a w h
         first
                  | (refine wl rfl (op_call h rfl K.go_disk_Disk_Wet (disk_Wet s _ _ _ _ 0 rfl h.2) rfl ?_))
                  | (refine wl rfl (op_call h rfl K.go_disk_Disk_Wet (disk_Wet s _ _ _ _ 1 rfl h.2) rfl ?_))
                  | (refine wl rfl (op_call h rfl K.go_disk_Disk_Wet (disk_Wet s _ _ _ _ 2 rfl h.2) rfl ?_))
                  | (refine wl rfl (op_call h rfl K.go_disk_Disk_Wet (disk_Wet s _ _ _ _ 3 rfl h.2) rfl ?_))
                  | (refine wl rfl (op_call h rfl K.go_disk_Disk_Wet (disk_Wet s _ _ _ _ 4 rfl h.2) rfl ?_))
                  | (refine wl rfl (op_call h rfl K.go_disk_Disk_Wet (disk_Wet s _ _ _ _ 5 rfl h.2) rfl ?_))
         clear h a w; intro x a w hx h
         (try simp only [List.set_cons_zero, List.set_cons_succ] at h)
         refine wv h (r_move h rfl) rfl ?_
         clear h a w; intro a w h
         refine wv h (r_lenV h rfl K.u_S_int (by first | exact Views.own 0 rfl | exact Views.own 1 rfl | exact Views.own 2 rfl | exact Views.own 3 rfl | exact Views.own 4 rfl | exact Views.own 5 rfl | assumption | exact Views.of_drop 1 (by assumption) | exact Views.of_drop 2 (by assumption) | exact Views.of_drop 3 (by assumption) | exact Views.of_drop 4 (by assumption) | exact Views.of_drop 5 (by assumption) | exact Views.of_drop 6 (by assumption) | exact Views.of_drop 7 (by assumption) | exact Views.of_drop 8 (by assumption) | exact Views.of_drop 9 (by assumption) | exact Views.of_drop 10 (by assumption) | exact Views.of_drop 11 (by assumption) | exact Views.of_drop 12 (by assumption))) rfl ?_
         clear h a w; intro a w h
         refine wv h (r_bin h rfl rfl (B.neq_int)) rfl ?_
         clear h a w; intro a w h
         refine wv h (r_move h rfl) rfl ?_
         clear h a w; intro a w h
         refine wvG h (by first | exact .t rfl | exact .f rfl | exact .gt rfl | exact .gf rfl) (fun hg => by (try simp only [↓gval_on hg, ↓gval_and hg] at h); (have hg2 := hg; (try simp only [Bool.and_eq_true, Bool.or_eq_true, Bool.not_eq_true', decide_eq_true_eq, decide_eq_false_iff_not] at hg2)); first | exact r_move h rfl) rfl ?_
         clear h a w; intro a w h
         refine wcG h (by first | exact .t rfl | exact .f rfl | exact .gt rfl | exact .gf rfl) K.go_disk_Disk_On (fun hg => by (try simp only [↓gval_on hg, ↓gval_and hg]); (have hg2 := hg; (try simp only [Bool.and_eq_true, Bool.or_eq_true, Bool.not_eq_true', decide_eq_true_eq, decide_eq_false_iff_not] at hg2)); exact ⟨_, rfl, (by first | exact disk_On s _ _ _ _ 0 rfl h.2 | exact disk_On s _ _ _ _ 1 rfl h.2 | exact disk_On s _ _ _ _ 2 rfl h.2 | exact disk_On s _ _ _ _ 3 rfl h.2 | exact disk_On s _ _ _ _ 4 rfl h.2 | exact disk_On s _ _ _ _ 5 rfl h.2)⟩) rfl ?_
         clear h a w; intro a w h
         refine wvG h (by first | exact .t rfl | exact .f rfl | exact .gt rfl | exact .gf rfl) (fun hg => by (try simp only [↓gval_on hg, ↓gval_and hg] at h); (have hg2 := hg; (try simp only [Bool.and_eq_true, Bool.or_eq_true, Bool.not_eq_true', decide_eq_true_eq, decide_eq_false_iff_not] at hg2)); first | exact r_move h rfl) rfl ?_
         clear h a w; intro a w h
         refine wvG h (by first | exact .t rfl | exact .f rfl | exact .gt rfl | exact .gf rfl) (fun hg => by (try simp only [↓gval_on hg, ↓gval_and hg] at h); (have hg2 := hg; (try simp only [Bool.and_eq_true, Bool.or_eq_true, Bool.not_eq_true', decide_eq_true_eq, decide_eq_false_iff_not] at hg2)); first | exact r_not h rfl) rfl ?_
         clear h a w; intro a w h
         refine wvG h (by first | exact .t rfl | exact .f rfl | exact .gt rfl | exact .gf rfl) (fun hg => by (try simp only [↓gval_on hg, ↓gval_and hg] at h); (have hg2 := hg; (try simp only [Bool.and_eq_true, Bool.or_eq_true, Bool.not_eq_true', decide_eq_true_eq, decide_eq_false_iff_not] at hg2)); first | exact r_boolne h K.u_bool rfl rfl) rfl ?_
         clear h a w; intro a w h
         first
                  | (refine wv h (r_pickA h rfl rfl rfl) rfl ?_)
                  | (refine wv h (r_pickO h rfl rfl rfl) rfl ?_)
                  | (refine wv h (r_pick_true h rfl rfl) rfl ?_)
                  | (refine wv h (r_pick_false h rfl rfl) rfl ?_)
                  | (refine wv h (r_pick h rfl rfl rfl) rfl ?_)
         clear h a w; intro a w h
         refine wv h (r_move h rfl) rfl ?_
         clear h a w; intro a w h
         refine wvG h (by first | exact .t rfl | exact .f rfl | exact .gt rfl | exact .gf rfl) (fun hg => by (try simp only [↓gval_on hg, ↓gval_and hg] at h); (have hg2 := hg; (try simp only [Bool.and_eq_true, Bool.or_eq_true, Bool.not_eq_true', decide_eq_true_eq, decide_eq_false_iff_not] at hg2)); first | exact r_move h rfl) rfl ?_
         clear h a w; intro a w h
         refine wcG h (by first | exact .t rfl | exact .f rfl | exact .gt rfl | exact .gf rfl) K.go_disk_Disk_Acts (fun hg => by (try simp only [↓gval_on hg, ↓gval_and hg]); (have hg2 := hg; (try simp only [Bool.and_eq_true, Bool.or_eq_true, Bool.not_eq_true', decide_eq_true_eq, decide_eq_false_iff_not] at hg2)); exact ⟨_, rfl, (by first | exact disk_Acts s _ _ _ _ 0 rfl h.2 | exact disk_Acts s _ _ _ _ 1 rfl h.2 | exact disk_Acts s _ _ _ _ 2 rfl h.2 | exact disk_Acts s _ _ _ _ 3 rfl h.2 | exact disk_Acts s _ _ _ _ 4 rfl h.2 | exact disk_Acts s _ _ _ _ 5 rfl h.2)⟩) rfl ?_
         clear h a w; intro a w h
         refine wvG h (by first | exact .t rfl | exact .f rfl | exact .gt rfl | exact .gf rfl) (fun hg => by (try simp only [↓gval_on hg, ↓gval_and hg] at h); (have hg2 := hg; (try simp only [Bool.and_eq_true, Bool.or_eq_true, Bool.not_eq_true', decide_eq_true_eq, decide_eq_false_iff_not] at hg2)); first | exact r_move h rfl) rfl ?_
         clear h a w; intro a w h
         refine wvG h (by first | exact .t rfl | exact .f rfl | exact .gt rfl | exact .gf rfl) (fun hg => by (try simp only [↓gval_on hg, ↓gval_and hg] at h); (have hg2 := hg; (try simp only [Bool.and_eq_true, Bool.or_eq_true, Bool.not_eq_true', decide_eq_true_eq, decide_eq_false_iff_not] at hg2)); first | exact r_bin h rfl rfl (B.neq_int)) rfl ?_
         clear h a w; intro a w h
         first
                  | (refine wv h (r_pickA h rfl rfl rfl) rfl ?_)
                  | (refine wv h (r_pickO h rfl rfl rfl) rfl ?_)
                  | (refine wv h (r_pick_true h rfl rfl) rfl ?_)
                  | (refine wv h (r_pick_false h rfl rfl) rfl ?_)
                  | (refine wv h (r_pick h rfl rfl rfl) rfl ?_)
         clear h a w; intro a w h
         refine wv h (r_move h rfl) rfl ?_
         clear h a w; intro a w h
         refine wvG h (by first | exact .t rfl | exact .f rfl | exact .gt rfl | exact .gf rfl) (fun hg => by (try simp only [↓gval_on hg, ↓gval_and hg] at h); (have hg2 := hg; (try simp only [Bool.and_eq_true, Bool.or_eq_true, Bool.not_eq_true', decide_eq_true_eq, decide_eq_false_iff_not] at hg2)); first | exact r_move h rfl) rfl ?_
         clear h a w; intro a w h
         refine wcG h (by first | exact .t rfl | exact .f rfl | exact .gt rfl | exact .gf rfl) K.go_disk_Disk_Sectors (fun hg => by (try simp only [↓gval_on hg, ↓gval_and hg]); (have hg2 := hg; (try simp only [Bool.and_eq_true, Bool.or_eq_true, Bool.not_eq_true', decide_eq_true_eq, decide_eq_false_iff_not] at hg2)); exact ⟨_, rfl, (by first | exact disk_Sectors s _ _ _ _ 0 rfl h.2 | exact disk_Sectors s _ _ _ _ 1 rfl h.2 | exact disk_Sectors s _ _ _ _ 2 rfl h.2 | exact disk_Sectors s _ _ _ _ 3 rfl h.2 | exact disk_Sectors s _ _ _ _ 4 rfl h.2 | exact disk_Sectors s _ _ _ _ 5 rfl h.2)⟩) rfl ?_
         clear h a w; intro a w h
         refine wvG h (by first | exact .t rfl | exact .f rfl | exact .gt rfl | exact .gf rfl) (fun hg => by (try simp only [↓gval_on hg, ↓gval_and hg] at h); (have hg2 := hg; (try simp only [Bool.and_eq_true, Bool.or_eq_true, Bool.not_eq_true', decide_eq_true_eq, decide_eq_false_iff_not] at hg2)); first | exact r_move h rfl) rfl ?_
         clear h a w; intro a w h
         refine wvG h (by first | exact .t rfl | exact .f rfl | exact .gt rfl | exact .gf rfl) (fun hg => by (try simp only [↓gval_on hg, ↓gval_and hg] at h); (have hg2 := hg; (try simp only [Bool.and_eq_true, Bool.or_eq_true, Bool.not_eq_true', decide_eq_true_eq, decide_eq_false_iff_not] at hg2)); first | exact r_bin h rfl rfl (B.neq_int)) rfl ?_
         clear h a w; intro a w h
         first
                  | (refine wv h (r_pickA h rfl rfl rfl) rfl ?_)
                  | (refine wv h (r_pickO h rfl rfl rfl) rfl ?_)
                  | (refine wv h (r_pick_true h rfl rfl) rfl ?_)
                  | (refine wv h (r_pick_false h rfl rfl) rfl ?_)
                  | (refine wv h (r_pick h rfl rfl rfl) rfl ?_)
         clear h a w; intro a w h
         refine wnil (c_then ?_)
         first
          | refine c_condD h rfl (fun ht23 => ?_) (fun ht23 => ?_)
          | refine c_condP h rfl (by first | (simp only [Bool.and_eq_true, Bool.or_eq_true, Bool.not_eq_true', decide_eq_true_eq, decide_eq_false_iff_not, ne_eq, Bool.not_eq_eq_eq_not, Bool.not_true, beq_iff_eq, bne_iff_ne]; exact Iff.rfl) | exact Iff.rfl) (fun ht23 => ?_) (fun ht23 => ?_)
         ·
          exfalso
          simp [hwil, hsl] at ht23
         ·
          refine c_skip ?_
          refine c_then ?_
          refine c_seq (c_region ?_)
          refine wv h (r_assign h rfl) rfl ?_
          clear h a w; intro a w h
          refine wnil (c_then ?_)
          refine c_block ?_
          refine c_loopX h (X := Nat) (fun x => [(1, av), (5, .int .i64 (i : Int)), (6, dp b), (7, vs1), (9, va1), (10, vw1), (11, .int .i64 D1.left), (12, .bool D1.off), (13, .int .i64 D1.acts), (14, .int .i64 (m : Int)), (20, .int .i64 (x : Int))])
            (fun x => DiskI b D1 :: OwnL id vs1 T1 :: OwnL (Value.int .i64) va1 (wetI D1) :: OwnL id vw1 U1 :: (G1 ++ F)) (fun x => x ≤ i) (fun x => i - x) 0 (h.keep [1, 5, 6, 7, 9, 10, 11, 12, 13, 14, 20]) (Nat.zero_le _) ?_
          clear h a w; intro y a w hy h
          as_aux_lemma =>
           refine c_seq ?_
           refine c_seq (c_region ?_)
           refine wv h (r_move h rfl) rfl ?_
           clear h a w; intro a w h
           refine wv h (r_move h rfl) rfl ?_
           clear h a w; intro a w h
           refine wv h (r_bin h rfl rfl (B.lss_int)) rfl ?_
           clear h a w; intro a w h
           refine wnil (c_then ?_)
           first
            | refine c_condD h rfl (fun ht24 => ?_) (fun ht24 => ?_)
            | refine c_condP h rfl (by first | (simp only [Bool.and_eq_true, Bool.or_eq_true, Bool.not_eq_true', decide_eq_true_eq, decide_eq_false_iff_not, ne_eq, Bool.not_eq_eq_eq_not, Bool.not_true, beq_iff_eq, bne_iff_ne]; exact Iff.rfl) | exact Iff.rfl) (fun ht24 => ?_) (fun ht24 => ?_)
           ·
            obtain ⟨u, hu⟩ : ∃ u, T1[y]? = some u := ⟨T1[y]'(by have := hsv.1; omega), by simp⟩
            have huv := hsv.2 y u hu
            refine c_skip ?_
            refine c_then ?_
            refine c_seq ?_
            refine c_block ?_
            refine c_seq (c_region ?_)
            refine wv h (r_move h rfl) rfl ?_
            clear h a w; intro a w h
            refine wv h (r_move h rfl) rfl ?_
            clear h a w; intro a w h
            refine wv h (r_elP h rfl rfl K.u_S_S_uint8 K.sz_S_uint8 (by first | exact Views.own 0 rfl | exact Views.own 1 rfl | exact Views.own 2 rfl | exact Views.own 3 rfl | exact Views.own 4 rfl | exact Views.own 5 rfl | assumption | exact Views.of_drop 1 (by assumption) | exact Views.of_drop 2 (by assumption) | exact Views.of_drop 3 (by assumption) | exact Views.of_drop 4 (by assumption) | exact Views.of_drop 5 (by assumption) | exact Views.of_drop 6 (by assumption) | exact Views.of_drop 7 (by assumption) | exact Views.of_drop 8 (by assumption) | exact Views.of_drop 9 (by assumption) | exact Views.of_drop 10 (by assumption) | exact Views.of_drop 11 (by assumption) | exact Views.of_drop 12 (by assumption)) (by first | omega | (simp; done)) (by first | omega | (simp only [List.length_cons, List.length_nil]; omega) | (simp; done) | (simp; omega))) rfl ?_
            clear h a w; intro a w h
            refine wv h (r_elG h rfl K.u_S_uint8 rfl (Views.own 1 rfl) (u := u) (by simpa using hu)) rfl ?_
            clear h a w; intro a w h
            refine wv h (r_assign h rfl) rfl ?_
            clear h a w; intro a w h
            refine wnil (c_then ?_)
            refine c_seq ?_
            refine c_seq (c_region ?_)
            refine wv h (r_assign h rfl) rfl ?_
            clear h a w; intro a w h
            refine wnil (c_then ?_)
            refine c_block ?_
            refine c_loopX h (X := Nat × Value × B64) (fun x => [(1, av), (5, .int .i64 (i : Int)), (6, dp b), (7, vs1), (9, va1), (10, vw1), (11, .int .i64 D1.left), (12, .bool D1.off), (13, .int .i64 D1.acts), (14, .int .i64 (m : Int)), (20, .int .i64 (y : Int)), (21, x.2.1), (22, .int .i64 (x.1 : Int))])
              (fun x => DiskI b D1 :: OwnL id vs1 T1 :: OwnL (Value.int .i64) va1 (wetI D1) :: OwnL id vw1 U1 :: (G1 ++ F)) (fun x => x.1 ≤ D1.wet.length ∧ ViewsB (G1 ++ F) x.2.1 x.2.2.val ∧ Dk.look (D1.wet.drop x.1) y x.2.2 = D1.read y) (fun x => D1.wet.length - x.1) (0, u, D1.safe.getD y B64.zero) (h.keep [1, 5, 6, 7, 9, 10, 11, 12, 13, 14, 20, 21, 22]) ⟨Nat.zero_le _, huv, rfl⟩ ?_
            clear h a w; intro x a w hx h
            obtain ⟨j, uc, cur⟩ := x
            obtain ⟨hj1, hj2, hj3⟩ := hx
            dsimp only at hj1 hj2 hj3 h
            as_aux_lemma =>
             refine c_seq ?_
             refine c_seq (c_region ?_)
             refine wv h (r_move h rfl) rfl ?_
             clear h a w; intro a w h
             refine wv h (r_move h rfl) rfl ?_
             clear h a w; intro a w h
             refine wv h (r_lenV h rfl K.u_S_int (by first | exact Views.own 0 rfl | exact Views.own 1 rfl | exact Views.own 2 rfl | exact Views.own 3 rfl | exact Views.own 4 rfl | exact Views.own 5 rfl | assumption | exact Views.of_drop 1 (by assumption) | exact Views.of_drop 2 (by assumption) | exact Views.of_drop 3 (by assumption) | exact Views.of_drop 4 (by assumption) | exact Views.of_drop 5 (by assumption) | exact Views.of_drop 6 (by assumption) | exact Views.of_drop 7 (by assumption) | exact Views.of_drop 8 (by assumption) | exact Views.of_drop 9 (by assumption) | exact Views.of_drop 10 (by assumption) | exact Views.of_drop 11 (by assumption) | exact Views.of_drop 12 (by assumption))) rfl ?_
             clear h a w; intro a w h
             refine wv h (r_bin h rfl rfl (B.lss_int)) rfl ?_
             clear h a w; intro a w h
             refine wnil (c_then ?_)
             first
              | refine c_condD h rfl (fun ht25 => ?_) (fun ht25 => ?_)
              | refine c_condP h rfl (by first | (simp only [Bool.and_eq_true, Bool.or_eq_true, Bool.not_eq_true', decide_eq_true_eq, decide_eq_false_iff_not, ne_eq, Bool.not_eq_eq_eq_not, Bool.not_true, beq_iff_eq, bne_iff_ne]; exact Iff.rfl) | exact Iff.rfl) (fun ht25 => ?_) (fun ht25 => ?_)
             ·
              obtain ⟨q, hq⟩ := cellsW_get (l := D1.wet) (i := j) (by omega)
              obtain ⟨u2, hu2⟩ : ∃ u, U1[j]? = some u := ⟨U1[j]'(by omega), by simp⟩
              rw [List.drop_eq_getElem_cons (by omega), show D1.wet[j] = q from by rw [List.getElem?_eq_getElem (by omega)] at hq; simpa using hq, Dk.look] at hj3
              refine c_skip ?_
              refine c_then ?_
              refine c_seq ?_
              refine c_block ?_
              refine c_seq (c_region ?_)
              refine wv h (r_move h rfl) rfl ?_
              clear h a w; intro a w h
              refine wv h (r_move h rfl) rfl ?_
              clear h a w; intro a w h
              refine wv h (r_elP h rfl rfl K.u_S_int K.sz_int (by first | exact Views.own 0 rfl | exact Views.own 1 rfl | exact Views.own 2 rfl | exact Views.own 3 rfl | exact Views.own 4 rfl | exact Views.own 5 rfl | assumption | exact Views.of_drop 1 (by assumption) | exact Views.of_drop 2 (by assumption) | exact Views.of_drop 3 (by assumption) | exact Views.of_drop 4 (by assumption) | exact Views.of_drop 5 (by assumption) | exact Views.of_drop 6 (by assumption) | exact Views.of_drop 7 (by assumption) | exact Views.of_drop 8 (by assumption) | exact Views.of_drop 9 (by assumption) | exact Views.of_drop 10 (by assumption) | exact Views.of_drop 11 (by assumption) | exact Views.of_drop 12 (by assumption)) (by first | omega | (simp; done)) (by first | omega | (simp only [List.length_cons, List.length_nil]; omega) | (simp; done) | (simp; omega))) rfl ?_
              clear h a w; intro a w h
              refine wv h (r_eli h rfl K.u_int rfl (by first | exact Views.own 0 rfl | exact Views.own 1 rfl | exact Views.own 2 rfl | exact Views.own 3 rfl | exact Views.own 4 rfl | exact Views.own 5 rfl | assumption | exact Views.of_drop 1 (by assumption) | exact Views.of_drop 2 (by assumption) | exact Views.of_drop 3 (by assumption) | exact Views.of_drop 4 (by assumption) | exact Views.of_drop 5 (by assumption) | exact Views.of_drop 6 (by assumption) | exact Views.of_drop 7 (by assumption) | exact Views.of_drop 8 (by assumption) | exact Views.of_drop 9 (by assumption) | exact Views.of_drop 10 (by assumption) | exact Views.of_drop 11 (by assumption) | exact Views.of_drop 12 (by assumption)) (by first | omega | (simp only [List.length_cons, List.length_nil]; omega) | (simp; done) | (simp; omega))) rfl ?_
              clear h a w; intro a w h
              rw [wetI_get hq] at h
              refine wv h (r_move h rfl) rfl ?_
              clear h a w; intro a w h
              refine wv h (r_bin h rfl rfl (B.eql_int)) rfl ?_
              clear h a w; intro a w h
              refine wnil (c_then ?_)
              first
               | refine c_condD h rfl (fun ht26 => ?_) (fun ht26 => ?_)
               | refine c_condP h rfl (by first | (simp only [Bool.and_eq_true, Bool.or_eq_true, Bool.not_eq_true', decide_eq_true_eq, decide_eq_false_iff_not, ne_eq, Bool.not_eq_eq_eq_not, Bool.not_true, beq_iff_eq, bne_iff_ne]; exact Iff.rfl) | exact Iff.rfl) (fun ht26 => ?_) (fun ht26 => ?_)
              ·
               as_aux_lemma =>
                refine c_region ?_
                refine wv h (r_move h rfl) rfl ?_
                clear h a w; intro a w h
                refine wv h (r_move h rfl) rfl ?_
                clear h a w; intro a w h
                refine wv h (r_elP h rfl rfl K.u_S_S_uint8 K.sz_S_uint8 (by first | exact Views.own 0 rfl | exact Views.own 1 rfl | exact Views.own 2 rfl | exact Views.own 3 rfl | exact Views.own 4 rfl | exact Views.own 5 rfl | assumption | exact Views.of_drop 1 (by assumption) | exact Views.of_drop 2 (by assumption) | exact Views.of_drop 3 (by assumption) | exact Views.of_drop 4 (by assumption) | exact Views.of_drop 5 (by assumption) | exact Views.of_drop 6 (by assumption) | exact Views.of_drop 7 (by assumption) | exact Views.of_drop 8 (by assumption) | exact Views.of_drop 9 (by assumption) | exact Views.of_drop 10 (by assumption) | exact Views.of_drop 11 (by assumption) | exact Views.of_drop 12 (by assumption)) (by first | omega | (simp; done)) (by first | omega | (simp only [List.length_cons, List.length_nil]; omega) | (simp; done) | (simp; omega))) rfl ?_
                clear h a w; intro a w h
                refine wv h (r_elG h rfl K.u_S_uint8 rfl (Views.own 3 rfl) (u := u2) (by simpa using hu2)) rfl ?_
                clear h a w; intro a w h
                refine wv h (r_assign h rfl) rfl ?_
                clear h a w; intro a w h
                refine wnil ?_
                refine b_normal ?_
                refine c_then ?_
                refine c_region ?_
                refine wv h (r_move h rfl) rfl ?_
                clear h a w; intro a w h
                refine wv h (r_bin h rfl rfl (B.add_i64 (by omega) (by omega))) rfl ?_
                clear h a w; intro a w h
                refine wv h (r_assign h rfl) rfl ?_
                clear h a w; intro a w h
                refine wnil ?_
                refine ⟨(j + 1, u2, q.2), h.keep [1, 5, 6, 7, 9, 10, 11, 12, 13, 14, 20, 21, 22], ⟨by show j + 1 ≤ _; omega, hwv j u2 q hu2 hq, ?_⟩, by show D1.wet.length - (j + 1) < D1.wet.length - j; omega⟩
                rw [if_pos (by omega)] at hj3; exact hj3
              ·
               refine c_skip ?_
               refine b_normal ?_
               refine c_then ?_
               refine c_region ?_
               refine wv h (r_move h rfl) rfl ?_
               clear h a w; intro a w h
               refine wv h (r_bin h rfl rfl (B.add_i64 (by omega) (by omega))) rfl ?_
               clear h a w; intro a w h
               refine wv h (r_assign h rfl) rfl ?_
               clear h a w; intro a w h
               refine wnil ?_
               refine ⟨(j + 1, uc, cur), h.keep [1, 5, 6, 7, 9, 10, 11, 12, 13, 14, 20, 21, 22], ⟨by show j + 1 ≤ _; omega, hj2, ?_⟩, by show D1.wet.length - (j + 1) < D1.wet.length - j; omega⟩
               rw [if_neg (by omega)] at hj3; exact hj3
             ·
              obtain rfl : j = D1.wet.length := by omega
              rw [List.drop_length, Dk.look] at hj3
              subst hj3
              refine c_exit ?_
              refine e_then ?_
              refine e_then ?_
              refine e_here ?_
              refine c_then ?_
              refine c_seq (c_region ?_)
              refine wv h (r_move h rfl) rfl ?_
              clear h a w; intro a w h
              refine wv h (r_move h rfl) rfl ?_
              clear h a w; intro a w h
              first
                            | (refine wl rfl (op_call h rfl K.go_disk_Disk_Read (disk_Read s _ _ _ _ _ 0 rfl (by first | assumption | exact Dk.OkN.ok' (by decide)) h.2) rfl ?_))
                            | (refine wl rfl (op_call h rfl K.go_disk_Disk_Read (disk_Read s _ _ _ _ _ 1 rfl (by first | assumption | exact Dk.OkN.ok' (by decide)) h.2) rfl ?_))
                            | (refine wl rfl (op_call h rfl K.go_disk_Disk_Read (disk_Read s _ _ _ _ _ 2 rfl (by first | assumption | exact Dk.OkN.ok' (by decide)) h.2) rfl ?_))
                            | (refine wl rfl (op_call h rfl K.go_disk_Disk_Read (disk_Read s _ _ _ _ _ 3 rfl (by first | assumption | exact Dk.OkN.ok' (by decide)) h.2) rfl ?_))
                            | (refine wl rfl (op_call h rfl K.go_disk_Disk_Read (disk_Read s _ _ _ _ _ 4 rfl (by first | assumption | exact Dk.OkN.ok' (by decide)) h.2) rfl ?_))
                            | (refine wl rfl (op_call h rfl K.go_disk_Disk_Read (disk_Read s _ _ _ _ _ 5 rfl (by first | assumption | exact Dk.OkN.ok' (by decide)) h.2) rfl ?_))
              clear h a w; intro v282 a w hx h
              (try simp only [List.set_cons_zero, List.set_cons_succ] at h)
              have hns : ¬ ((y : Int) < 0 ∨ (D1.safe.length : Int) ≤ y) := by omega
              have hvr : ¬ D1.off = true → D1.vRead y = (D1.read y).val := fun q => by rw [Dk.vRead, if_neg (by rintro (e | e); exact hns e; exact q e)]; rfl
              rw [Dk.eRead, if_neg hns] at h
              refine wv h (r_move h rfl) rfl ?_
              clear h a w; intro a w h
              refine wv h (r_extractN h rfl rfl) rfl ?_
              clear h a w; intro a w h
              refine wv h (r_extractN h rfl rfl) rfl ?_
              clear h a w; intro a w h
              refine wv h (r_assign h rfl) rfl ?_
              clear h a w; intro a w h
              refine wv h (r_assign h rfl) rfl ?_
              clear h a w; intro a w h
              refine wnil (c_then ?_)
              refine c_seq (c_region ?_)
              refine wv h (r_move h rfl) rfl ?_
              clear h a w; intro a w h
              refine wv h (r_move h rfl) rfl ?_
              clear h a w; intro a w h
              refine wvG h (by first | exact .t rfl | exact .f rfl | exact .gt rfl | exact .gf rfl) (fun hg => by (try simp only [↓gval_on hg, ↓gval_and hg] at h); (have hg2 := hg; (try simp only [Bool.and_eq_true, Bool.or_eq_true, Bool.not_eq_true', decide_eq_true_eq, decide_eq_false_iff_not] at hg2)); first | exact r_move h rfl) rfl ?_
              clear h a w; intro a w h
              refine wvG h (by first | exact .t rfl | exact .f rfl | exact .gt rfl | exact .gf rfl) (fun hg => by (try simp only [↓gval_on hg, ↓gval_and hg] at h); (have hg2 := hg; (try simp only [Bool.and_eq_true, Bool.or_eq_true, Bool.not_eq_true', decide_eq_true_eq, decide_eq_false_iff_not] at hg2)); first | exact r_bin h rfl rfl (B.neq_int)) rfl ?_
              clear h a w; intro a w h
              first
                            | (refine wv h (r_pickA h rfl rfl rfl) rfl ?_)
                            | (refine wv h (r_pickO h rfl rfl rfl) rfl ?_)
                            | (refine wv h (r_pick_true h rfl rfl) rfl ?_)
                            | (refine wv h (r_pick_false h rfl rfl) rfl ?_)
                            | (refine wv h (r_pick h rfl rfl rfl) rfl ?_)
              clear h a w; intro a w h
              refine wv h (r_move h rfl) rfl ?_
              clear h a w; intro a w h
              refine wvG h (by first | exact .t rfl | exact .f rfl | exact .gt rfl | exact .gf rfl) (fun hg => by (try simp only [↓gval_on hg, ↓gval_and hg] at h); (have hg2 := hg; (try simp only [Bool.and_eq_true, Bool.or_eq_true, Bool.not_eq_true', decide_eq_true_eq, decide_eq_false_iff_not] at hg2)); first | exact r_move h rfl) rfl ?_
              clear h a w; intro a w h
              refine wvG h (by first | exact .t rfl | exact .f rfl | exact .gt rfl | exact .gf rfl) (fun hg => by (try simp only [↓gval_on hg, ↓gval_and hg] at h); (have hg2 := hg; (try simp only [Bool.and_eq_true, Bool.or_eq_true, Bool.not_eq_true', decide_eq_true_eq, decide_eq_false_iff_not] at hg2)); first | exact r_not h rfl) rfl ?_
              clear h a w; intro a w h
              refine wvG h (by first | exact .t rfl | exact .f rfl | exact .gt rfl | exact .gf rfl) (fun hg => by (try simp only [↓gval_on hg, ↓gval_and hg] at h); (have hg2 := hg; (try simp only [Bool.and_eq_true, Bool.or_eq_true, Bool.not_eq_true', decide_eq_true_eq, decide_eq_false_iff_not] at hg2)); first | exact r_move h rfl) rfl ?_
              clear h a w; intro a w h
              refine wvG h (by first | exact .t rfl | exact .f rfl | exact .gt rfl | exact .gf rfl) (fun hg => by (try simp only [↓gval_on hg, ↓gval_and hg] at h); (have hg2 := hg; (try simp only [Bool.and_eq_true, Bool.or_eq_true, Bool.not_eq_true', decide_eq_true_eq, decide_eq_false_iff_not] at hg2)); first | exact r_move h rfl) rfl ?_
              clear h a w; intro a w h
              refine wvG h (by first | exact .t rfl | exact .f rfl | exact .gt rfl | exact .gf rfl) (fun hg => by (try simp only [↓gval_on hg, ↓gval_and hg] at h); (have hg2 := hg; (try simp only [Bool.and_eq_true, Bool.or_eq_true, Bool.not_eq_true', decide_eq_true_eq, decide_eq_false_iff_not] at hg2)); first | exact r_bin h rfl rfl (B.neq_int)) rfl ?_
              clear h a w; intro a w h
              refine wvG h (by first | exact .t rfl | exact .f rfl | exact .gt rfl | exact .gf rfl) (fun hg => by (try simp only [↓gval_on hg, ↓gval_and hg] at h); (have hg2 := hg; (try simp only [Bool.and_eq_true, Bool.or_eq_true, Bool.not_eq_true', decide_eq_true_eq, decide_eq_false_iff_not] at hg2)); first | exact r_move h rfl) rfl ?_
              clear h a w; intro a w h
              refine wvG h (by first | exact .t rfl | exact .f rfl | exact .gt rfl | exact .gf rfl) (fun hg => by (try simp only [↓gval_on hg, ↓gval_and hg] at h); (have hg2 := hg; (try simp only [Bool.and_eq_true, Bool.or_eq_true, Bool.not_eq_true', decide_eq_true_eq, decide_eq_false_iff_not] at hg2)); first | exact r_move h rfl) rfl ?_
              clear h a w; intro a w h
              refine wvG h (by first | exact .t rfl | exact .f rfl | exact .gt rfl | exact .gf rfl) (fun hg => by (try simp only [↓gval_on hg, ↓gval_and hg] at h); (have hg2 := hg; (try simp only [Bool.and_eq_true, Bool.or_eq_true, Bool.not_eq_true', decide_eq_true_eq, decide_eq_false_iff_not] at hg2)); first | exact r_b2sb h rfl K.u_S_uint8 K.u_uint8 K.u_string (by first | exact ViewsB.own 0 rfl | exact ViewsB.own 1 rfl | exact ViewsB.own 2 rfl | exact ViewsB.own 3 rfl | exact ViewsB.own 4 rfl | exact ViewsB.own 5 rfl | assumption | exact ViewsB.nil _ | exact ViewsB.arr 0 rfl (by first | assumption | rfl | (simp; done)) (Nat.le_refl _) (by simp [maxLen]) | exact ViewsB.arr 1 rfl (by first | assumption | rfl | (simp; done)) (Nat.le_refl _) (by simp [maxLen]) | exact ViewsB.arr 2 rfl (by first | assumption | rfl | (simp; done)) (Nat.le_refl _) (by simp [maxLen]) | exact ViewsB.arr 3 rfl (by first | assumption | rfl | (simp; done)) (Nat.le_refl _) (by simp [maxLen]) | exact ViewsB.arr 4 rfl (by first | assumption | rfl | (simp; done)) (Nat.le_refl _) (by simp [maxLen]) | exact ViewsB.of_drop 1 (by assumption) | exact ViewsB.of_drop 2 (by assumption) | exact ViewsB.of_drop 3 (by assumption) | exact ViewsB.of_drop 4 (by assumption) | exact ViewsB.of_drop 5 (by assumption) | exact ViewsB.of_drop 6 (by assumption) | exact ViewsB.of_drop 7 (by assumption) | exact ViewsB.of_drop 8 (by assumption) | exact ViewsB.of_drop 9 (by assumption) | exact ViewsB.of_drop 10 (by assumption) | exact ViewsB.of_drop 11 (by assumption) | exact ViewsB.of_drop 12 (by assumption) | exact ViewsB.sub (by first | exact ViewsB.own 0 rfl | exact ViewsB.own 1 rfl | exact ViewsB.own 2 rfl | exact ViewsB.own 3 rfl | exact ViewsB.own 4 rfl | exact ViewsB.own 5 rfl | assumption | exact ViewsB.nil _ | exact ViewsB.arr 0 rfl (by first | assumption | rfl | (simp; done)) (Nat.le_refl _) (by simp [maxLen]) | exact ViewsB.arr 1 rfl (by first | assumption | rfl | (simp; done)) (Nat.le_refl _) (by simp [maxLen]) | exact ViewsB.arr 2 rfl (by first | assumption | rfl | (simp; done)) (Nat.le_refl _) (by simp [maxLen]) | exact ViewsB.arr 3 rfl (by first | assumption | rfl | (simp; done)) (Nat.le_refl _) (by simp [maxLen]) | exact ViewsB.arr 4 rfl (by first | assumption | rfl | (simp; done)) (Nat.le_refl _) (by simp [maxLen]) | exact ViewsB.of_drop 1 (by assumption) | exact ViewsB.of_drop 2 (by assumption) | exact ViewsB.of_drop 3 (by assumption) | exact ViewsB.of_drop 4 (by assumption) | exact ViewsB.of_drop 5 (by assumption) | exact ViewsB.of_drop 6 (by assumption) | exact ViewsB.of_drop 7 (by assumption) | exact ViewsB.of_drop 8 (by assumption) | exact ViewsB.of_drop 9 (by assumption) | exact ViewsB.of_drop 10 (by assumption) | exact ViewsB.of_drop 11 (by assumption) | exact ViewsB.of_drop 12 (by assumption)) (by omega) (by first | omega | (simp; done) | (simp; omega)))) rfl ?_
              clear h a w; intro a w h
              refine wvG h (by first | exact .t rfl | exact .f rfl | exact .gt rfl | exact .gf rfl) (fun hg => by (try simp only [↓gval_on hg, ↓gval_and hg] at h); (have hg2 := hg; (try simp only [Bool.and_eq_true, Bool.or_eq_true, Bool.not_eq_true', decide_eq_true_eq, decide_eq_false_iff_not] at hg2)); first | exact r_move h rfl) rfl ?_
              clear h a w; intro a w h
              refine wvG h (by first | exact .t rfl | exact .f rfl | exact .gt rfl | exact .gf rfl) (fun hg => by (try simp only [↓gval_on hg, ↓gval_and hg] at h); (have hg2 := hg; (try simp only [Bool.and_eq_true, Bool.or_eq_true, Bool.not_eq_true', decide_eq_true_eq, decide_eq_false_iff_not] at hg2)); first | exact r_b2sb h rfl K.u_S_uint8 K.u_uint8 K.u_string (by first | exact ViewsB.own 0 rfl | exact ViewsB.own 1 rfl | exact ViewsB.own 2 rfl | exact ViewsB.own 3 rfl | exact ViewsB.own 4 rfl | exact ViewsB.own 5 rfl | assumption | exact ViewsB.nil _ | exact ViewsB.arr 0 rfl (by first | assumption | rfl | (simp; done)) (Nat.le_refl _) (by simp [maxLen]) | exact ViewsB.arr 1 rfl (by first | assumption | rfl | (simp; done)) (Nat.le_refl _) (by simp [maxLen]) | exact ViewsB.arr 2 rfl (by first | assumption | rfl | (simp; done)) (Nat.le_refl _) (by simp [maxLen]) | exact ViewsB.arr 3 rfl (by first | assumption | rfl | (simp; done)) (Nat.le_refl _) (by simp [maxLen]) | exact ViewsB.arr 4 rfl (by first | assumption | rfl | (simp; done)) (Nat.le_refl _) (by simp [maxLen]) | exact ViewsB.of_drop 1 (by assumption) | exact ViewsB.of_drop 2 (by assumption) | exact ViewsB.of_drop 3 (by assumption) | exact ViewsB.of_drop 4 (by assumption) | exact ViewsB.of_drop 5 (by assumption) | exact ViewsB.of_drop 6 (by assumption) | exact ViewsB.of_drop 7 (by assumption) | exact ViewsB.of_drop 8 (by assumption) | exact ViewsB.of_drop 9 (by assumption) | exact ViewsB.of_drop 10 (by assumption) | exact ViewsB.of_drop 11 (by assumption) | exact ViewsB.of_drop 12 (by assumption) | exact ViewsB.sub (by first | exact ViewsB.own 0 rfl | exact ViewsB.own 1 rfl | exact ViewsB.own 2 rfl | exact ViewsB.own 3 rfl | exact ViewsB.own 4 rfl | exact ViewsB.own 5 rfl | assumption | exact ViewsB.nil _ | exact ViewsB.arr 0 rfl (by first | assumption | rfl | (simp; done)) (Nat.le_refl _) (by simp [maxLen]) | exact ViewsB.arr 1 rfl (by first | assumption | rfl | (simp; done)) (Nat.le_refl _) (by simp [maxLen]) | exact ViewsB.arr 2 rfl (by first | assumption | rfl | (simp; done)) (Nat.le_refl _) (by simp [maxLen]) | exact ViewsB.arr 3 rfl (by first | assumption | rfl | (simp; done)) (Nat.le_refl _) (by simp [maxLen]) | exact ViewsB.arr 4 rfl (by first | assumption | rfl | (simp; done)) (Nat.le_refl _) (by simp [maxLen]) | exact ViewsB.of_drop 1 (by assumption) | exact ViewsB.of_drop 2 (by assumption) | exact ViewsB.of_drop 3 (by assumption) | exact ViewsB.of_drop 4 (by assumption) | exact ViewsB.of_drop 5 (by assumption) | exact ViewsB.of_drop 6 (by assumption) | exact ViewsB.of_drop 7 (by assumption) | exact ViewsB.of_drop 8 (by assumption) | exact ViewsB.of_drop 9 (by assumption) | exact ViewsB.of_drop 10 (by assumption) | exact ViewsB.of_drop 11 (by assumption) | exact ViewsB.of_drop 12 (by assumption)) (by omega) (by first | omega | (simp; done) | (simp; omega)))) rfl ?_
              clear h a w; intro a w h
              refine wvG h (by first | exact .t rfl | exact .f rfl | exact .gt rfl | exact .gf rfl) (fun hg => by (try simp only [↓gval_on hg, ↓gval_and hg] at h); (have hg2 := hg; (try simp only [Bool.and_eq_true, Bool.or_eq_true, Bool.not_eq_true', decide_eq_true_eq, decide_eq_false_iff_not] at hg2)); first | exact r_strne h rfl rfl) rfl ?_
              clear h a w; intro a w h
              refine wvG h (by first | exact .t rfl | exact .f rfl | exact .gt rfl | exact .gf rfl) (fun hg => by (try simp only [↓gval_on hg, ↓gval_and hg] at h); (have hg2 := hg; (try simp only [Bool.and_eq_true, Bool.or_eq_true, Bool.not_eq_true', decide_eq_true_eq, decide_eq_false_iff_not] at hg2)); first | exact r_pickA h rfl rfl rfl | exact r_pickO h rfl rfl rfl | exact r_pick_true h rfl rfl | exact r_pick_false h rfl rfl | exact r_pick h rfl rfl rfl) rfl ?_
              clear h a w; intro a w h
              refine wvG h (by first | exact .t rfl | exact .f rfl | exact .gt rfl | exact .gf rfl) (fun hg => by (try simp only [↓gval_on hg, ↓gval_and hg] at h); (have hg2 := hg; (try simp only [Bool.and_eq_true, Bool.or_eq_true, Bool.not_eq_true', decide_eq_true_eq, decide_eq_false_iff_not] at hg2)); first | exact r_pickA h rfl rfl rfl | exact r_pickO h rfl rfl rfl | exact r_pick_true h rfl rfl | exact r_pick_false h rfl rfl | exact r_pick h rfl rfl rfl) rfl ?_
              clear h a w; intro a w h
              first
                            | (refine wv h (r_pickA h rfl rfl rfl) rfl ?_)
                            | (refine wv h (r_pickO h rfl rfl rfl) rfl ?_)
                            | (refine wv h (r_pick_true h rfl rfl) rfl ?_)
                            | (refine wv h (r_pick_false h rfl rfl) rfl ?_)
                            | (refine wv h (r_pick h rfl rfl rfl) rfl ?_)
              clear h a w; intro a w h
              refine wnil (c_then ?_)
              first
               | refine c_condD h rfl (fun ht27 => ?_) (fun ht27 => ?_)
               | refine c_condP h rfl (by first | (simp only [Bool.and_eq_true, Bool.or_eq_true, Bool.not_eq_true', decide_eq_true_eq, decide_eq_false_iff_not, ne_eq, Bool.not_eq_eq_eq_not, Bool.not_true, beq_iff_eq, bne_iff_ne]; exact Iff.rfl) | exact Iff.rfl) (fun ht27 => ?_) (fun ht27 => ?_)
              ·
               exfalso
               by_cases q : D1.off = true
               · simp [q] at ht27
               · simp [q, hvr q] at ht27
              ·
               refine c_skip ?_
               refine b_normal ?_
               refine c_then ?_
               refine c_region ?_
               refine wv h (r_move h rfl) rfl ?_
               clear h a w; intro a w h
               refine wv h (r_bin h rfl rfl (B.add_i64 (by omega) (by omega))) rfl ?_
               clear h a w; intro a w h
               refine wv h (r_assign h rfl) rfl ?_
               clear h a w; intro a w h
               refine wnil ?_
               exact ⟨y + 1, h.mem (fun z => z.drop 1) |>.keep [1, 5, 6, 7, 9, 10, 11, 12, 13, 14, 20], by show y + 1 ≤ i; omega, by show i - (y + 1) < i - y; omega⟩
           ·
            refine c_exit ?_
            refine e_then ?_
            refine e_then ?_
            refine e_here ?_
            refine b_normal ?_
            refine c_then ?_
            refine c_region ?_
            refine wv h (r_move h rfl) rfl ?_
            clear h a w; intro a w h
            refine wv h (r_bin h rfl rfl (B.add_i64 (by omega) (by omega))) rfl ?_
            clear h a w; intro a w h
            refine wv h (r_assign h rfl) rfl ?_
            clear h a w; intro a w h
            refine wnil ?_
            exact ⟨(m + 1, ⟨D1, vs1, T1, va1, vw1, U1, G1⟩), h.keep [1, 5, 6, 7, 9, 10, 11, 12, 13, 14], ⟨by show m + 1 ≤ _; omega, hok, hac, hsl, hsv, hwl, hwv⟩, by show acts.length - (m + 1) < acts.length - m; omega⟩
      ·
       refine c_exit ?_
       refine e_then ?_
       refine e_then ?_
       refine e_here ?_
       refine c_then ?_
       refine c_seq (c_region ?_)
       refine wv h (r_assign h rfl) rfl ?_
       clear h a w; intro a w h
       refine wnil (c_then ?_)
       refine c_ret ?_
       exact ret1 h rfl rfl ⟨(), rfl, Sat.dropApp (h.2.drop 4), trivial⟩
end Go.Proofs.K
