/- The contracts of package rules: each rule. -/
import Derived.Test.YtckdkncmkpoghaaRules
set_option linter.unusedVariables false
set_option linter.unusedSimpArgs false
set_option maxRecDepth 10000
set_option maxHeartbeats 2000000
namespace Go.Proofs.K
open Go.Sl
attribute [local irreducible] Go.Sl.Own Go.Sl.Blk Go.Sl.Sep Go.Sl.Ex Go.Sl.Fact

def nodeE (e : El) : El := ⟨e.id, e.kind, e.parent, e.order, e.name, 0, 0, [], [], []⟩
def nodeN (e : El) : El := ⟨e.id, e.kind, e.parent, e.order, [], 0, 0, [], [], []⟩
def transE (e : El) : El := ⟨e.id, e.kind, 0, e.order, [], e.src, e.dst, e.event, e.guard, e.action⟩
theorem kd12 {e : El} (h : (decide (e.kind = 1) || decide (e.kind = 2)) = true) : decide (e ≠ nodeE e) = brk2 e := by
  obtain ⟨a0, a1, a2, a3, a4, a5, a6, a7, a8, a9⟩ := e
  simp only [Bool.or_eq_true, decide_eq_true_eq] at h
  rw [Bool.eq_iff_iff]
  rcases h with rfl | rfl <;> simp [nodeE, brk2, endsE] <;>
    (by_cases q5 : a5 = 0 <;> by_cases q6 : a6 = 0 <;> by_cases q7 : a7 = [] <;> by_cases q8 : a8 = [] <;> by_cases q9 : a9 = [] <;> simp [q5, q6, q7, q8, q9])
theorem kd34 {e : El} (h : (decide (e.kind = 3) || decide (e.kind = 4)) = true) : decide (e ≠ nodeN e) = brk2 e := by
  obtain ⟨a0, a1, a2, a3, a4, a5, a6, a7, a8, a9⟩ := e
  simp only [Bool.or_eq_true, decide_eq_true_eq] at h
  rw [Bool.eq_iff_iff]
  rcases h with rfl | rfl <;> simp [nodeN, brk2, endsE] <;>
    (by_cases q4 : a4 = [] <;> by_cases q5 : a5 = 0 <;> by_cases q6 : a6 = 0 <;> by_cases q7 : a7 = [] <;> by_cases q8 : a8 = [] <;> by_cases q9 : a9 = [] <;> simp [q4, q5, q6, q7, q8, q9])
theorem kd5 {e : El} (h : e.kind = 5) : decide (e ≠ transE e) = brk2 e := by
  obtain ⟨a0, a1, a2, a3, a4, a5, a6, a7, a8, a9⟩ := e
  dsimp only at h
  subst h
  rw [Bool.eq_iff_iff]
  simp [transE, brk2, endsE]
theorem kdn {e : El} (h1 : (decide (e.kind = 1) || decide (e.kind = 2)) = false) (h2 : (decide (e.kind = 3) || decide (e.kind = 4)) = false) (h3 : ¬ e.kind = 5) : brk2 e = true := by
  simp only [Bool.or_eq_false_iff, decide_eq_false_iff_not] at h1 h2
  have hk : e.kind < 1 ∨ 5 < e.kind := by
    have e1 : e.kind.toNat ≠ 1 := fun q => h1.1 (UInt8.toNat_inj.1 q)
    have e2 : e.kind.toNat ≠ 2 := fun q => h1.2 (UInt8.toNat_inj.1 q)
    have e3 : e.kind.toNat ≠ 3 := fun q => h2.1 (UInt8.toNat_inj.1 q)
    have e4 : e.kind.toNat ≠ 4 := fun q => h2.2 (UInt8.toNat_inj.1 q)
    have e5 : e.kind.toNat ≠ 5 := fun q => h3 (UInt8.toNat_inj.1 q)
    rw [UInt8.lt_iff_toNat_lt, UInt8.lt_iff_toNat_lt]
    show e.kind.toNat < 1 ∨ 5 < e.kind.toNat
    omega
  rcases hk with q | q <;> simp [brk2, q]
theorem brk2_kind {e : El} (h : brk2 e = false) : e.kind = 1 ∨ e.kind = 2 ∨ e.kind = 3 ∨ e.kind = 4 ∨ e.kind = 5 := by
  refine Classical.byContradiction fun q => ?_
  rw [kdn (by simp; exact ⟨fun z => q (.inl z), fun z => q (.inr (.inl z))⟩) (by simp; exact ⟨fun z => q (.inr (.inr (.inl z))), fun z => q (.inr (.inr (.inr (.inl z))))⟩) (fun z => q (.inr (.inr (.inr (.inr z)))))] at h
  cases h

theorem rules_named (s w : World) (e : El) (F : List HItem) (hs : Sat s w F) :
    Calls P n_rules_named #[.agg ⟨cellsE e⟩] w (Ret s (fun _ : Unit => .bool (namedE e)) (fun _ => F) (fun _ => True)) := by
  refine enter K.fn_rules_named rfl K.nt_rules_named rfl hs ?_
  clear hs w; intro a w h
  refine c_seq (c_region ?_)
  refine wl rfl (op_box h rfl rfl ?_)
  clear h a w; intro b1 a w h
  try simp only [Value.cells] at h
  refine wv h (r_assign h rfl) rfl ?_
  clear h a w; intro a w h
  refine wnil (c_then ?_)
  refine c_seq (c_region ?_)
  refine wv h (r_fieldAddr h 1 rfl K.u_api_Elem rfl K.sz_uint8 rfl rfl) rfl ?_
  clear h a w; intro a w h
  first
    | (refine wv h (r_ldN h rfl K.u_uint8 rfl 0 rfl rfl) rfl ?_)
    | (refine wv h (r_ldN h rfl K.u_uint8 rfl 1 rfl rfl) rfl ?_)
    | (refine wv h (r_ldN h rfl K.u_uint8 rfl 2 rfl rfl) rfl ?_)
    | (refine wv h (r_ldN h rfl K.u_uint8 rfl 3 rfl rfl) rfl ?_)
    | (refine wv h (r_ldN h rfl K.u_uint8 rfl 4 rfl rfl) rfl ?_)
    | (refine wv h (r_ldN h rfl K.u_uint8 rfl 5 rfl rfl) rfl ?_)
    | (refine wv h (r_ldN h rfl K.u_uint8 rfl 6 rfl rfl) rfl ?_)
    | (refine wv h (r_ldC (o := 1) h rfl K.u_uint8 rfl 0 rfl) rfl ?_)
    | (refine wv h (r_ldC (o := 1) h rfl K.u_uint8 rfl 1 rfl) rfl ?_)
    | (refine wv h (r_ldC (o := 1) h rfl K.u_uint8 rfl 2 rfl) rfl ?_)
    | (refine wv h (r_ldC (o := 1) h rfl K.u_uint8 rfl 3 rfl) rfl ?_)
    | (refine wv h (r_ldC (o := 1) h rfl K.u_uint8 rfl 4 rfl) rfl ?_)
    | (refine wv h (r_ldC (o := 1) h rfl K.u_uint8 rfl 5 rfl) rfl ?_)
    | (refine wv h (r_ldC (o := 1) h rfl K.u_uint8 rfl 6 rfl) rfl ?_)
    | (refine wv h (r_load h rfl K.u_uint8 rfl 0 rfl rfl) rfl ?_)
    | (refine wv h (r_load h rfl K.u_uint8 rfl 1 rfl rfl) rfl ?_)
    | (refine wv h (r_load h rfl K.u_uint8 rfl 2 rfl rfl) rfl ?_)
    | (refine wv h (r_load h rfl K.u_uint8 rfl 3 rfl rfl) rfl ?_)
    | (refine wv h (r_load h rfl K.u_uint8 rfl 4 rfl rfl) rfl ?_)
    | (refine wv h (r_load h rfl K.u_uint8 rfl 5 rfl rfl) rfl ?_)
    | (refine wv h (r_load1 h rfl K.u_uint8 rfl (by assumption)) rfl ?_)
  clear h a w; intro a w h
  refine wv h (r_bin h rfl rfl (B.eql_u8 (y := 1))) rfl ?_
  clear h a w; intro a w h
  refine wv h (r_move h rfl) rfl ?_
  clear h a w; intro a w h
  refine wvG h (by first | exact .t rfl | exact .f rfl | exact .gt rfl | exact .gf rfl) (fun hg => by (try simp only [↓gval_on hg, ↓gval_and hg] at h); (have hg2 := hg; (try simp only [Bool.and_eq_true, Bool.or_eq_true, Bool.not_eq_true', decide_eq_true_eq, decide_eq_false_iff_not] at hg2)); first | exact r_fieldAddr h 1 rfl K.u_api_Elem rfl K.sz_uint8 rfl rfl) rfl ?_
  clear h a w; intro a w h
  refine wvG h (by first | exact .t rfl | exact .f rfl | exact .gt rfl | exact .gf rfl) (fun hg => by (try simp only [↓gval_on hg, ↓gval_and hg] at h); (have hg2 := hg; (try simp only [Bool.and_eq_true, Bool.or_eq_true, Bool.not_eq_true', decide_eq_true_eq, decide_eq_false_iff_not] at hg2)); first | exact r_ldN h rfl K.u_uint8 rfl 0 rfl rfl | exact r_ldN h rfl K.u_uint8 rfl 1 rfl rfl | exact r_ldN h rfl K.u_uint8 rfl 2 rfl rfl | exact r_ldN h rfl K.u_uint8 rfl 3 rfl rfl | exact r_ldN h rfl K.u_uint8 rfl 4 rfl rfl | exact r_ldN h rfl K.u_uint8 rfl 5 rfl rfl | exact r_ldN h rfl K.u_uint8 rfl 6 rfl rfl | exact r_ldC (o := 1) h rfl K.u_uint8 rfl 0 rfl | exact r_ldC (o := 1) h rfl K.u_uint8 rfl 1 rfl | exact r_ldC (o := 1) h rfl K.u_uint8 rfl 2 rfl | exact r_ldC (o := 1) h rfl K.u_uint8 rfl 3 rfl | exact r_ldC (o := 1) h rfl K.u_uint8 rfl 4 rfl | exact r_ldC (o := 1) h rfl K.u_uint8 rfl 5 rfl | exact r_ldC (o := 1) h rfl K.u_uint8 rfl 6 rfl | exact r_load h rfl K.u_uint8 rfl 0 rfl rfl | exact r_load h rfl K.u_uint8 rfl 1 rfl rfl | exact r_load h rfl K.u_uint8 rfl 2 rfl rfl | exact r_load h rfl K.u_uint8 rfl 3 rfl rfl | exact r_load h rfl K.u_uint8 rfl 4 rfl rfl | exact r_load h rfl K.u_uint8 rfl 5 rfl rfl | exact r_load1 h rfl K.u_uint8 rfl (by assumption)) rfl ?_
  clear h a w; intro a w h
  refine wvG h (by first | exact .t rfl | exact .f rfl | exact .gt rfl | exact .gf rfl) (fun hg => by (try simp only [↓gval_on hg, ↓gval_and hg] at h); (have hg2 := hg; (try simp only [Bool.and_eq_true, Bool.or_eq_true, Bool.not_eq_true', decide_eq_true_eq, decide_eq_false_iff_not] at hg2)); first | exact r_bin h rfl rfl (B.eql_u8 (y := 2))) rfl ?_
  clear h a w; intro a w h
  first
    | (refine wv h (r_pickA h rfl rfl rfl) rfl ?_)
    | (refine wv h (r_pickO h rfl rfl rfl) rfl ?_)
    | (refine wv h (r_pick_true h rfl rfl) rfl ?_)
    | (refine wv h (r_pick_false h rfl rfl) rfl ?_)
    | (refine wv h (r_pick h rfl rfl rfl) rfl ?_)
  clear h a w; intro a w h
  refine wv h (r_assign h rfl) rfl ?_
  clear h a w; intro a w h
  refine wnil (c_then ?_)
  refine c_ret ?_
  exact ret1 h rfl rfl ⟨(), rfl, h.2.drop 1, trivial⟩

theorem rules_kinds (s w : World) (v : Value) (e : El) (F : List HItem) (hs : Sat s w F) :
    Calls P n_rules_kinds #[v, .agg ⟨cellsE e⟩] w (Ret s (fun _ : Unit => .bool (brk2 e)) (fun _ => F) (fun _ => True)) := by
  refine enter K.fn_rules_kinds rfl K.nt_rules_kinds rfl hs ?_
  clear hs w; intro a w h
  refine c_seq (c_region ?_)
  refine wl rfl (op_box h rfl rfl ?_)
  clear h a w; intro b3 a w h
  try simp only [Value.cells] at h
  refine wv h (r_assign h rfl) rfl ?_
  clear h a w; intro a w h
  refine wnil (c_then ?_)
  refine c_seq (c_region ?_)
  refine wv h (r_fieldAddr0 h rfl K.u_api_Elem rfl K.sz_int rfl rfl) rfl ?_
  clear h a w; intro a w h
  first
    | (refine wv h (r_ldN h rfl K.u_int rfl 0 rfl rfl) rfl ?_)
    | (refine wv h (r_ldN h rfl K.u_int rfl 1 rfl rfl) rfl ?_)
    | (refine wv h (r_ldN h rfl K.u_int rfl 2 rfl rfl) rfl ?_)
    | (refine wv h (r_ldN h rfl K.u_int rfl 3 rfl rfl) rfl ?_)
    | (refine wv h (r_ldN h rfl K.u_int rfl 4 rfl rfl) rfl ?_)
    | (refine wv h (r_ldN h rfl K.u_int rfl 5 rfl rfl) rfl ?_)
    | (refine wv h (r_ldN h rfl K.u_int rfl 6 rfl rfl) rfl ?_)
    | (refine wv h (r_ldC (o := 0) h rfl K.u_int rfl 0 rfl) rfl ?_)
    | (refine wv h (r_ldC (o := 0) h rfl K.u_int rfl 1 rfl) rfl ?_)
    | (refine wv h (r_ldC (o := 0) h rfl K.u_int rfl 2 rfl) rfl ?_)
    | (refine wv h (r_ldC (o := 0) h rfl K.u_int rfl 3 rfl) rfl ?_)
    | (refine wv h (r_ldC (o := 0) h rfl K.u_int rfl 4 rfl) rfl ?_)
    | (refine wv h (r_ldC (o := 0) h rfl K.u_int rfl 5 rfl) rfl ?_)
    | (refine wv h (r_ldC (o := 0) h rfl K.u_int rfl 6 rfl) rfl ?_)
    | (refine wv h (r_load h rfl K.u_int rfl 0 rfl rfl) rfl ?_)
    | (refine wv h (r_load h rfl K.u_int rfl 1 rfl rfl) rfl ?_)
    | (refine wv h (r_load h rfl K.u_int rfl 2 rfl rfl) rfl ?_)
    | (refine wv h (r_load h rfl K.u_int rfl 3 rfl rfl) rfl ?_)
    | (refine wv h (r_load h rfl K.u_int rfl 4 rfl rfl) rfl ?_)
    | (refine wv h (r_load h rfl K.u_int rfl 5 rfl rfl) rfl ?_)
    | (refine wv h (r_load1 h rfl K.u_int rfl (by assumption)) rfl ?_)
  clear h a w; intro a w h
  refine wv h (r_fieldAddr h 1 rfl K.u_api_Elem rfl K.sz_uint8 rfl rfl) rfl ?_
  clear h a w; intro a w h
  first
    | (refine wv h (r_ldN h rfl K.u_uint8 rfl 0 rfl rfl) rfl ?_)
    | (refine wv h (r_ldN h rfl K.u_uint8 rfl 1 rfl rfl) rfl ?_)
    | (refine wv h (r_ldN h rfl K.u_uint8 rfl 2 rfl rfl) rfl ?_)
    | (refine wv h (r_ldN h rfl K.u_uint8 rfl 3 rfl rfl) rfl ?_)
    | (refine wv h (r_ldN h rfl K.u_uint8 rfl 4 rfl rfl) rfl ?_)
    | (refine wv h (r_ldN h rfl K.u_uint8 rfl 5 rfl rfl) rfl ?_)
    | (refine wv h (r_ldN h rfl K.u_uint8 rfl 6 rfl rfl) rfl ?_)
    | (refine wv h (r_ldC (o := 1) h rfl K.u_uint8 rfl 0 rfl) rfl ?_)
    | (refine wv h (r_ldC (o := 1) h rfl K.u_uint8 rfl 1 rfl) rfl ?_)
    | (refine wv h (r_ldC (o := 1) h rfl K.u_uint8 rfl 2 rfl) rfl ?_)
    | (refine wv h (r_ldC (o := 1) h rfl K.u_uint8 rfl 3 rfl) rfl ?_)
    | (refine wv h (r_ldC (o := 1) h rfl K.u_uint8 rfl 4 rfl) rfl ?_)
    | (refine wv h (r_ldC (o := 1) h rfl K.u_uint8 rfl 5 rfl) rfl ?_)
    | (refine wv h (r_ldC (o := 1) h rfl K.u_uint8 rfl 6 rfl) rfl ?_)
    | (refine wv h (r_load h rfl K.u_uint8 rfl 0 rfl rfl) rfl ?_)
    | (refine wv h (r_load h rfl K.u_uint8 rfl 1 rfl rfl) rfl ?_)
    | (refine wv h (r_load h rfl K.u_uint8 rfl 2 rfl rfl) rfl ?_)
    | (refine wv h (r_load h rfl K.u_uint8 rfl 3 rfl rfl) rfl ?_)
    | (refine wv h (r_load h rfl K.u_uint8 rfl 4 rfl rfl) rfl ?_)
    | (refine wv h (r_load h rfl K.u_uint8 rfl 5 rfl rfl) rfl ?_)
    | (refine wv h (r_load1 h rfl K.u_uint8 rfl (by assumption)) rfl ?_)
  clear h a w; intro a w h
  refine wv h (r_fieldAddr h 3 rfl K.u_api_Elem rfl K.sz_int rfl rfl) rfl ?_
  clear h a w; intro a w h
  first
    | (refine wv h (r_ldN h rfl K.u_int rfl 0 rfl rfl) rfl ?_)
    | (refine wv h (r_ldN h rfl K.u_int rfl 1 rfl rfl) rfl ?_)
    | (refine wv h (r_ldN h rfl K.u_int rfl 2 rfl rfl) rfl ?_)
    | (refine wv h (r_ldN h rfl K.u_int rfl 3 rfl rfl) rfl ?_)
    | (refine wv h (r_ldN h rfl K.u_int rfl 4 rfl rfl) rfl ?_)
    | (refine wv h (r_ldN h rfl K.u_int rfl 5 rfl rfl) rfl ?_)
    | (refine wv h (r_ldN h rfl K.u_int rfl 6 rfl rfl) rfl ?_)
    | (refine wv h (r_ldC (o := 3) h rfl K.u_int rfl 0 rfl) rfl ?_)
    | (refine wv h (r_ldC (o := 3) h rfl K.u_int rfl 1 rfl) rfl ?_)
    | (refine wv h (r_ldC (o := 3) h rfl K.u_int rfl 2 rfl) rfl ?_)
    | (refine wv h (r_ldC (o := 3) h rfl K.u_int rfl 3 rfl) rfl ?_)
    | (refine wv h (r_ldC (o := 3) h rfl K.u_int rfl 4 rfl) rfl ?_)
    | (refine wv h (r_ldC (o := 3) h rfl K.u_int rfl 5 rfl) rfl ?_)
    | (refine wv h (r_ldC (o := 3) h rfl K.u_int rfl 6 rfl) rfl ?_)
    | (refine wv h (r_load h rfl K.u_int rfl 0 rfl rfl) rfl ?_)
    | (refine wv h (r_load h rfl K.u_int rfl 1 rfl rfl) rfl ?_)
    | (refine wv h (r_load h rfl K.u_int rfl 2 rfl rfl) rfl ?_)
    | (refine wv h (r_load h rfl K.u_int rfl 3 rfl rfl) rfl ?_)
    | (refine wv h (r_load h rfl K.u_int rfl 4 rfl rfl) rfl ?_)
    | (refine wv h (r_load h rfl K.u_int rfl 5 rfl rfl) rfl ?_)
    | (refine wv h (r_load1 h rfl K.u_int rfl (by assumption)) rfl ?_)
  clear h a w; intro a w h
  refine wv h (r_fieldAddr h 5 rfl K.u_api_Elem rfl K.sz_int rfl rfl) rfl ?_
  clear h a w; intro a w h
  first
    | (refine wv h (r_ldN h rfl K.u_int rfl 0 rfl rfl) rfl ?_)
    | (refine wv h (r_ldN h rfl K.u_int rfl 1 rfl rfl) rfl ?_)
    | (refine wv h (r_ldN h rfl K.u_int rfl 2 rfl rfl) rfl ?_)
    | (refine wv h (r_ldN h rfl K.u_int rfl 3 rfl rfl) rfl ?_)
    | (refine wv h (r_ldN h rfl K.u_int rfl 4 rfl rfl) rfl ?_)
    | (refine wv h (r_ldN h rfl K.u_int rfl 5 rfl rfl) rfl ?_)
    | (refine wv h (r_ldN h rfl K.u_int rfl 6 rfl rfl) rfl ?_)
    | (refine wv h (r_ldC (o := 5) h rfl K.u_int rfl 0 rfl) rfl ?_)
    | (refine wv h (r_ldC (o := 5) h rfl K.u_int rfl 1 rfl) rfl ?_)
    | (refine wv h (r_ldC (o := 5) h rfl K.u_int rfl 2 rfl) rfl ?_)
    | (refine wv h (r_ldC (o := 5) h rfl K.u_int rfl 3 rfl) rfl ?_)
    | (refine wv h (r_ldC (o := 5) h rfl K.u_int rfl 4 rfl) rfl ?_)
    | (refine wv h (r_ldC (o := 5) h rfl K.u_int rfl 5 rfl) rfl ?_)
    | (refine wv h (r_ldC (o := 5) h rfl K.u_int rfl 6 rfl) rfl ?_)
    | (refine wv h (r_load h rfl K.u_int rfl 0 rfl rfl) rfl ?_)
    | (refine wv h (r_load h rfl K.u_int rfl 1 rfl rfl) rfl ?_)
    | (refine wv h (r_load h rfl K.u_int rfl 2 rfl rfl) rfl ?_)
    | (refine wv h (r_load h rfl K.u_int rfl 3 rfl rfl) rfl ?_)
    | (refine wv h (r_load h rfl K.u_int rfl 4 rfl rfl) rfl ?_)
    | (refine wv h (r_load h rfl K.u_int rfl 5 rfl rfl) rfl ?_)
    | (refine wv h (r_load1 h rfl K.u_int rfl (by assumption)) rfl ?_)
  clear h a w; intro a w h
  refine wv h (r_fieldAddr h 6 rfl K.u_api_Elem rfl K.sz_int rfl rfl) rfl ?_
  clear h a w; intro a w h
  first
    | (refine wv h (r_ldN h rfl K.u_int rfl 0 rfl rfl) rfl ?_)
    | (refine wv h (r_ldN h rfl K.u_int rfl 1 rfl rfl) rfl ?_)
    | (refine wv h (r_ldN h rfl K.u_int rfl 2 rfl rfl) rfl ?_)
    | (refine wv h (r_ldN h rfl K.u_int rfl 3 rfl rfl) rfl ?_)
    | (refine wv h (r_ldN h rfl K.u_int rfl 4 rfl rfl) rfl ?_)
    | (refine wv h (r_ldN h rfl K.u_int rfl 5 rfl rfl) rfl ?_)
    | (refine wv h (r_ldN h rfl K.u_int rfl 6 rfl rfl) rfl ?_)
    | (refine wv h (r_ldC (o := 6) h rfl K.u_int rfl 0 rfl) rfl ?_)
    | (refine wv h (r_ldC (o := 6) h rfl K.u_int rfl 1 rfl) rfl ?_)
    | (refine wv h (r_ldC (o := 6) h rfl K.u_int rfl 2 rfl) rfl ?_)
    | (refine wv h (r_ldC (o := 6) h rfl K.u_int rfl 3 rfl) rfl ?_)
    | (refine wv h (r_ldC (o := 6) h rfl K.u_int rfl 4 rfl) rfl ?_)
    | (refine wv h (r_ldC (o := 6) h rfl K.u_int rfl 5 rfl) rfl ?_)
    | (refine wv h (r_ldC (o := 6) h rfl K.u_int rfl 6 rfl) rfl ?_)
    | (refine wv h (r_load h rfl K.u_int rfl 0 rfl rfl) rfl ?_)
    | (refine wv h (r_load h rfl K.u_int rfl 1 rfl rfl) rfl ?_)
    | (refine wv h (r_load h rfl K.u_int rfl 2 rfl rfl) rfl ?_)
    | (refine wv h (r_load h rfl K.u_int rfl 3 rfl rfl) rfl ?_)
    | (refine wv h (r_load h rfl K.u_int rfl 4 rfl rfl) rfl ?_)
    | (refine wv h (r_load h rfl K.u_int rfl 5 rfl rfl) rfl ?_)
    | (refine wv h (r_load1 h rfl K.u_int rfl (by assumption)) rfl ?_)
  clear h a w; intro a w h
  refine wv h (r_fieldAddr h 7 rfl K.u_api_Elem rfl K.sz_string rfl rfl) rfl ?_
  clear h a w; intro a w h
  first
    | (refine wv h (r_ldN h rfl K.u_string rfl 0 rfl rfl) rfl ?_)
    | (refine wv h (r_ldN h rfl K.u_string rfl 1 rfl rfl) rfl ?_)
    | (refine wv h (r_ldN h rfl K.u_string rfl 2 rfl rfl) rfl ?_)
    | (refine wv h (r_ldN h rfl K.u_string rfl 3 rfl rfl) rfl ?_)
    | (refine wv h (r_ldN h rfl K.u_string rfl 4 rfl rfl) rfl ?_)
    | (refine wv h (r_ldN h rfl K.u_string rfl 5 rfl rfl) rfl ?_)
    | (refine wv h (r_ldN h rfl K.u_string rfl 6 rfl rfl) rfl ?_)
    | (refine wv h (r_ldC (o := 7) h rfl K.u_string rfl 0 rfl) rfl ?_)
    | (refine wv h (r_ldC (o := 7) h rfl K.u_string rfl 1 rfl) rfl ?_)
    | (refine wv h (r_ldC (o := 7) h rfl K.u_string rfl 2 rfl) rfl ?_)
    | (refine wv h (r_ldC (o := 7) h rfl K.u_string rfl 3 rfl) rfl ?_)
    | (refine wv h (r_ldC (o := 7) h rfl K.u_string rfl 4 rfl) rfl ?_)
    | (refine wv h (r_ldC (o := 7) h rfl K.u_string rfl 5 rfl) rfl ?_)
    | (refine wv h (r_ldC (o := 7) h rfl K.u_string rfl 6 rfl) rfl ?_)
    | (refine wv h (r_load h rfl K.u_string rfl 0 rfl rfl) rfl ?_)
    | (refine wv h (r_load h rfl K.u_string rfl 1 rfl rfl) rfl ?_)
    | (refine wv h (r_load h rfl K.u_string rfl 2 rfl rfl) rfl ?_)
    | (refine wv h (r_load h rfl K.u_string rfl 3 rfl rfl) rfl ?_)
    | (refine wv h (r_load h rfl K.u_string rfl 4 rfl rfl) rfl ?_)
    | (refine wv h (r_load h rfl K.u_string rfl 5 rfl rfl) rfl ?_)
    | (refine wv h (r_load1 h rfl K.u_string rfl (by assumption)) rfl ?_)
  clear h a w; intro a w h
  refine wv h (r_fieldAddr h 8 rfl K.u_api_Elem rfl K.sz_string rfl rfl) rfl ?_
  clear h a w; intro a w h
  first
    | (refine wv h (r_ldN h rfl K.u_string rfl 0 rfl rfl) rfl ?_)
    | (refine wv h (r_ldN h rfl K.u_string rfl 1 rfl rfl) rfl ?_)
    | (refine wv h (r_ldN h rfl K.u_string rfl 2 rfl rfl) rfl ?_)
    | (refine wv h (r_ldN h rfl K.u_string rfl 3 rfl rfl) rfl ?_)
    | (refine wv h (r_ldN h rfl K.u_string rfl 4 rfl rfl) rfl ?_)
    | (refine wv h (r_ldN h rfl K.u_string rfl 5 rfl rfl) rfl ?_)
    | (refine wv h (r_ldN h rfl K.u_string rfl 6 rfl rfl) rfl ?_)
    | (refine wv h (r_ldC (o := 8) h rfl K.u_string rfl 0 rfl) rfl ?_)
    | (refine wv h (r_ldC (o := 8) h rfl K.u_string rfl 1 rfl) rfl ?_)
    | (refine wv h (r_ldC (o := 8) h rfl K.u_string rfl 2 rfl) rfl ?_)
    | (refine wv h (r_ldC (o := 8) h rfl K.u_string rfl 3 rfl) rfl ?_)
    | (refine wv h (r_ldC (o := 8) h rfl K.u_string rfl 4 rfl) rfl ?_)
    | (refine wv h (r_ldC (o := 8) h rfl K.u_string rfl 5 rfl) rfl ?_)
    | (refine wv h (r_ldC (o := 8) h rfl K.u_string rfl 6 rfl) rfl ?_)
    | (refine wv h (r_load h rfl K.u_string rfl 0 rfl rfl) rfl ?_)
    | (refine wv h (r_load h rfl K.u_string rfl 1 rfl rfl) rfl ?_)
    | (refine wv h (r_load h rfl K.u_string rfl 2 rfl rfl) rfl ?_)
    | (refine wv h (r_load h rfl K.u_string rfl 3 rfl rfl) rfl ?_)
    | (refine wv h (r_load h rfl K.u_string rfl 4 rfl rfl) rfl ?_)
    | (refine wv h (r_load h rfl K.u_string rfl 5 rfl rfl) rfl ?_)
    | (refine wv h (r_load1 h rfl K.u_string rfl (by assumption)) rfl ?_)
  clear h a w; intro a w h
  refine wv h (r_fieldAddr h 9 rfl K.u_api_Elem rfl K.sz_string rfl rfl) rfl ?_
  clear h a w; intro a w h
  first
    | (refine wv h (r_ldN h rfl K.u_string rfl 0 rfl rfl) rfl ?_)
    | (refine wv h (r_ldN h rfl K.u_string rfl 1 rfl rfl) rfl ?_)
    | (refine wv h (r_ldN h rfl K.u_string rfl 2 rfl rfl) rfl ?_)
    | (refine wv h (r_ldN h rfl K.u_string rfl 3 rfl rfl) rfl ?_)
    | (refine wv h (r_ldN h rfl K.u_string rfl 4 rfl rfl) rfl ?_)
    | (refine wv h (r_ldN h rfl K.u_string rfl 5 rfl rfl) rfl ?_)
    | (refine wv h (r_ldN h rfl K.u_string rfl 6 rfl rfl) rfl ?_)
    | (refine wv h (r_ldC (o := 9) h rfl K.u_string rfl 0 rfl) rfl ?_)
    | (refine wv h (r_ldC (o := 9) h rfl K.u_string rfl 1 rfl) rfl ?_)
    | (refine wv h (r_ldC (o := 9) h rfl K.u_string rfl 2 rfl) rfl ?_)
    | (refine wv h (r_ldC (o := 9) h rfl K.u_string rfl 3 rfl) rfl ?_)
    | (refine wv h (r_ldC (o := 9) h rfl K.u_string rfl 4 rfl) rfl ?_)
    | (refine wv h (r_ldC (o := 9) h rfl K.u_string rfl 5 rfl) rfl ?_)
    | (refine wv h (r_ldC (o := 9) h rfl K.u_string rfl 6 rfl) rfl ?_)
    | (refine wv h (r_load h rfl K.u_string rfl 0 rfl rfl) rfl ?_)
    | (refine wv h (r_load h rfl K.u_string rfl 1 rfl rfl) rfl ?_)
    | (refine wv h (r_load h rfl K.u_string rfl 2 rfl rfl) rfl ?_)
    | (refine wv h (r_load h rfl K.u_string rfl 3 rfl rfl) rfl ?_)
    | (refine wv h (r_load h rfl K.u_string rfl 4 rfl rfl) rfl ?_)
    | (refine wv h (r_load h rfl K.u_string rfl 5 rfl rfl) rfl ?_)
    | (refine wv h (r_load1 h rfl K.u_string rfl (by assumption)) rfl ?_)
  clear h a w; intro a w h
  refine wv h (r_build (cells := ⟨cellsE (transE e)⟩) h K.u_api_Elem K.z_api_Elem K.pl_api_Elem rfl (by kernel_rfl)) rfl ?_
  clear h a w; intro a w h
  refine wl rfl (op_alloc h K.z_api_Elem rfl ?_)
  clear h a w; intro b5 a w h
  first
    | (refine wl rfl (op_stA h rfl rfl K.sz_api_Elem (by first | exact Row.len _ | rfl | assumption | (simp; done) | (simp; omega) | omega) (by first | exact Row.one _ | exact bs_one _ | assumption | (simp; done) | (simp; (repeat' apply And.intro) <;> first | rfl | assumption)) 0 rfl (by first | rfl | assumption | (simp; done) | (simp; omega) | omega) ?_))
    | (refine wl rfl (op_stA h rfl rfl K.sz_api_Elem (by first | exact Row.len _ | rfl | assumption | (simp; done) | (simp; omega) | omega) (by first | exact Row.one _ | exact bs_one _ | assumption | (simp; done) | (simp; (repeat' apply And.intro) <;> first | rfl | assumption)) 1 rfl (by first | rfl | assumption | (simp; done) | (simp; omega) | omega) ?_))
    | (refine wl rfl (op_stA h rfl rfl K.sz_api_Elem (by first | exact Row.len _ | rfl | assumption | (simp; done) | (simp; omega) | omega) (by first | exact Row.one _ | exact bs_one _ | assumption | (simp; done) | (simp; (repeat' apply And.intro) <;> first | rfl | assumption)) 2 rfl (by first | rfl | assumption | (simp; done) | (simp; omega) | omega) ?_))
    | (refine wl rfl (op_stA h rfl rfl K.sz_api_Elem (by first | exact Row.len _ | rfl | assumption | (simp; done) | (simp; omega) | omega) (by first | exact Row.one _ | exact bs_one _ | assumption | (simp; done) | (simp; (repeat' apply And.intro) <;> first | rfl | assumption)) 3 rfl (by first | rfl | assumption | (simp; done) | (simp; omega) | omega) ?_))
    | (refine wl rfl (op_stA h rfl rfl K.sz_api_Elem (by first | exact Row.len _ | rfl | assumption | (simp; done) | (simp; omega) | omega) (by first | exact Row.one _ | exact bs_one _ | assumption | (simp; done) | (simp; (repeat' apply And.intro) <;> first | rfl | assumption)) 4 rfl (by first | rfl | assumption | (simp; done) | (simp; omega) | omega) ?_))
    | (refine wl rfl (op_stA h rfl rfl K.sz_api_Elem (by first | exact Row.len _ | rfl | assumption | (simp; done) | (simp; omega) | omega) (by first | exact Row.one _ | exact bs_one _ | assumption | (simp; done) | (simp; (repeat' apply And.intro) <;> first | rfl | assumption)) 5 rfl (by first | rfl | assumption | (simp; done) | (simp; omega) | omega) ?_))
  clear h a w; intro a w h
  (try simp only [List.set_cons_zero, List.set_cons_succ] at h)
  refine wnil (c_then ?_)
  refine c_seq (c_region ?_)
  refine wv h (r_fieldAddr0 h rfl K.u_api_Elem rfl K.sz_int rfl rfl) rfl ?_
  clear h a w; intro a w h
  first
    | (refine wv h (r_ldN h rfl K.u_int rfl 0 rfl rfl) rfl ?_)
    | (refine wv h (r_ldN h rfl K.u_int rfl 1 rfl rfl) rfl ?_)
    | (refine wv h (r_ldN h rfl K.u_int rfl 2 rfl rfl) rfl ?_)
    | (refine wv h (r_ldN h rfl K.u_int rfl 3 rfl rfl) rfl ?_)
    | (refine wv h (r_ldN h rfl K.u_int rfl 4 rfl rfl) rfl ?_)
    | (refine wv h (r_ldN h rfl K.u_int rfl 5 rfl rfl) rfl ?_)
    | (refine wv h (r_ldN h rfl K.u_int rfl 6 rfl rfl) rfl ?_)
    | (refine wv h (r_ldC (o := 0) h rfl K.u_int rfl 0 rfl) rfl ?_)
    | (refine wv h (r_ldC (o := 0) h rfl K.u_int rfl 1 rfl) rfl ?_)
    | (refine wv h (r_ldC (o := 0) h rfl K.u_int rfl 2 rfl) rfl ?_)
    | (refine wv h (r_ldC (o := 0) h rfl K.u_int rfl 3 rfl) rfl ?_)
    | (refine wv h (r_ldC (o := 0) h rfl K.u_int rfl 4 rfl) rfl ?_)
    | (refine wv h (r_ldC (o := 0) h rfl K.u_int rfl 5 rfl) rfl ?_)
    | (refine wv h (r_ldC (o := 0) h rfl K.u_int rfl 6 rfl) rfl ?_)
    | (refine wv h (r_load h rfl K.u_int rfl 0 rfl rfl) rfl ?_)
    | (refine wv h (r_load h rfl K.u_int rfl 1 rfl rfl) rfl ?_)
    | (refine wv h (r_load h rfl K.u_int rfl 2 rfl rfl) rfl ?_)
    | (refine wv h (r_load h rfl K.u_int rfl 3 rfl rfl) rfl ?_)
    | (refine wv h (r_load h rfl K.u_int rfl 4 rfl rfl) rfl ?_)
    | (refine wv h (r_load h rfl K.u_int rfl 5 rfl rfl) rfl ?_)
    | (refine wv h (r_load1 h rfl K.u_int rfl (by assumption)) rfl ?_)
  clear h a w; intro a w h
  refine wv h (r_fieldAddr h 1 rfl K.u_api_Elem rfl K.sz_uint8 rfl rfl) rfl ?_
  clear h a w; intro a w h
  first
    | (refine wv h (r_ldN h rfl K.u_uint8 rfl 0 rfl rfl) rfl ?_)
    | (refine wv h (r_ldN h rfl K.u_uint8 rfl 1 rfl rfl) rfl ?_)
    | (refine wv h (r_ldN h rfl K.u_uint8 rfl 2 rfl rfl) rfl ?_)
    | (refine wv h (r_ldN h rfl K.u_uint8 rfl 3 rfl rfl) rfl ?_)
    | (refine wv h (r_ldN h rfl K.u_uint8 rfl 4 rfl rfl) rfl ?_)
    | (refine wv h (r_ldN h rfl K.u_uint8 rfl 5 rfl rfl) rfl ?_)
    | (refine wv h (r_ldN h rfl K.u_uint8 rfl 6 rfl rfl) rfl ?_)
    | (refine wv h (r_ldC (o := 1) h rfl K.u_uint8 rfl 0 rfl) rfl ?_)
    | (refine wv h (r_ldC (o := 1) h rfl K.u_uint8 rfl 1 rfl) rfl ?_)
    | (refine wv h (r_ldC (o := 1) h rfl K.u_uint8 rfl 2 rfl) rfl ?_)
    | (refine wv h (r_ldC (o := 1) h rfl K.u_uint8 rfl 3 rfl) rfl ?_)
    | (refine wv h (r_ldC (o := 1) h rfl K.u_uint8 rfl 4 rfl) rfl ?_)
    | (refine wv h (r_ldC (o := 1) h rfl K.u_uint8 rfl 5 rfl) rfl ?_)
    | (refine wv h (r_ldC (o := 1) h rfl K.u_uint8 rfl 6 rfl) rfl ?_)
    | (refine wv h (r_load h rfl K.u_uint8 rfl 0 rfl rfl) rfl ?_)
    | (refine wv h (r_load h rfl K.u_uint8 rfl 1 rfl rfl) rfl ?_)
    | (refine wv h (r_load h rfl K.u_uint8 rfl 2 rfl rfl) rfl ?_)
    | (refine wv h (r_load h rfl K.u_uint8 rfl 3 rfl rfl) rfl ?_)
    | (refine wv h (r_load h rfl K.u_uint8 rfl 4 rfl rfl) rfl ?_)
    | (refine wv h (r_load h rfl K.u_uint8 rfl 5 rfl rfl) rfl ?_)
    | (refine wv h (r_load1 h rfl K.u_uint8 rfl (by assumption)) rfl ?_)
  clear h a w; intro a w h
  refine wv h (r_fieldAddr h 2 rfl K.u_api_Elem rfl K.sz_int rfl rfl) rfl ?_
  clear h a w; intro a w h
  first
    | (refine wv h (r_ldN h rfl K.u_int rfl 0 rfl rfl) rfl ?_)
    | (refine wv h (r_ldN h rfl K.u_int rfl 1 rfl rfl) rfl ?_)
    | (refine wv h (r_ldN h rfl K.u_int rfl 2 rfl rfl) rfl ?_)
    | (refine wv h (r_ldN h rfl K.u_int rfl 3 rfl rfl) rfl ?_)
    | (refine wv h (r_ldN h rfl K.u_int rfl 4 rfl rfl) rfl ?_)
    | (refine wv h (r_ldN h rfl K.u_int rfl 5 rfl rfl) rfl ?_)
    | (refine wv h (r_ldN h rfl K.u_int rfl 6 rfl rfl) rfl ?_)
    | (refine wv h (r_ldC (o := 2) h rfl K.u_int rfl 0 rfl) rfl ?_)
    | (refine wv h (r_ldC (o := 2) h rfl K.u_int rfl 1 rfl) rfl ?_)
    | (refine wv h (r_ldC (o := 2) h rfl K.u_int rfl 2 rfl) rfl ?_)
    | (refine wv h (r_ldC (o := 2) h rfl K.u_int rfl 3 rfl) rfl ?_)
    | (refine wv h (r_ldC (o := 2) h rfl K.u_int rfl 4 rfl) rfl ?_)
    | (refine wv h (r_ldC (o := 2) h rfl K.u_int rfl 5 rfl) rfl ?_)
    | (refine wv h (r_ldC (o := 2) h rfl K.u_int rfl 6 rfl) rfl ?_)
    | (refine wv h (r_load h rfl K.u_int rfl 0 rfl rfl) rfl ?_)
    | (refine wv h (r_load h rfl K.u_int rfl 1 rfl rfl) rfl ?_)
    | (refine wv h (r_load h rfl K.u_int rfl 2 rfl rfl) rfl ?_)
    | (refine wv h (r_load h rfl K.u_int rfl 3 rfl rfl) rfl ?_)
    | (refine wv h (r_load h rfl K.u_int rfl 4 rfl rfl) rfl ?_)
    | (refine wv h (r_load h rfl K.u_int rfl 5 rfl rfl) rfl ?_)
    | (refine wv h (r_load1 h rfl K.u_int rfl (by assumption)) rfl ?_)
  clear h a w; intro a w h
  refine wv h (r_fieldAddr h 3 rfl K.u_api_Elem rfl K.sz_int rfl rfl) rfl ?_
  clear h a w; intro a w h
  first
    | (refine wv h (r_ldN h rfl K.u_int rfl 0 rfl rfl) rfl ?_)
    | (refine wv h (r_ldN h rfl K.u_int rfl 1 rfl rfl) rfl ?_)
    | (refine wv h (r_ldN h rfl K.u_int rfl 2 rfl rfl) rfl ?_)
    | (refine wv h (r_ldN h rfl K.u_int rfl 3 rfl rfl) rfl ?_)
    | (refine wv h (r_ldN h rfl K.u_int rfl 4 rfl rfl) rfl ?_)
    | (refine wv h (r_ldN h rfl K.u_int rfl 5 rfl rfl) rfl ?_)
    | (refine wv h (r_ldN h rfl K.u_int rfl 6 rfl rfl) rfl ?_)
    | (refine wv h (r_ldC (o := 3) h rfl K.u_int rfl 0 rfl) rfl ?_)
    | (refine wv h (r_ldC (o := 3) h rfl K.u_int rfl 1 rfl) rfl ?_)
    | (refine wv h (r_ldC (o := 3) h rfl K.u_int rfl 2 rfl) rfl ?_)
    | (refine wv h (r_ldC (o := 3) h rfl K.u_int rfl 3 rfl) rfl ?_)
    | (refine wv h (r_ldC (o := 3) h rfl K.u_int rfl 4 rfl) rfl ?_)
    | (refine wv h (r_ldC (o := 3) h rfl K.u_int rfl 5 rfl) rfl ?_)
    | (refine wv h (r_ldC (o := 3) h rfl K.u_int rfl 6 rfl) rfl ?_)
    | (refine wv h (r_load h rfl K.u_int rfl 0 rfl rfl) rfl ?_)
    | (refine wv h (r_load h rfl K.u_int rfl 1 rfl rfl) rfl ?_)
    | (refine wv h (r_load h rfl K.u_int rfl 2 rfl rfl) rfl ?_)
    | (refine wv h (r_load h rfl K.u_int rfl 3 rfl rfl) rfl ?_)
    | (refine wv h (r_load h rfl K.u_int rfl 4 rfl rfl) rfl ?_)
    | (refine wv h (r_load h rfl K.u_int rfl 5 rfl rfl) rfl ?_)
    | (refine wv h (r_load1 h rfl K.u_int rfl (by assumption)) rfl ?_)
  clear h a w; intro a w h
  refine wv h (r_fieldAddr h 4 rfl K.u_api_Elem rfl K.sz_string rfl rfl) rfl ?_
  clear h a w; intro a w h
  first
    | (refine wv h (r_ldN h rfl K.u_string rfl 0 rfl rfl) rfl ?_)
    | (refine wv h (r_ldN h rfl K.u_string rfl 1 rfl rfl) rfl ?_)
    | (refine wv h (r_ldN h rfl K.u_string rfl 2 rfl rfl) rfl ?_)
    | (refine wv h (r_ldN h rfl K.u_string rfl 3 rfl rfl) rfl ?_)
    | (refine wv h (r_ldN h rfl K.u_string rfl 4 rfl rfl) rfl ?_)
    | (refine wv h (r_ldN h rfl K.u_string rfl 5 rfl rfl) rfl ?_)
    | (refine wv h (r_ldN h rfl K.u_string rfl 6 rfl rfl) rfl ?_)
    | (refine wv h (r_ldC (o := 4) h rfl K.u_string rfl 0 rfl) rfl ?_)
    | (refine wv h (r_ldC (o := 4) h rfl K.u_string rfl 1 rfl) rfl ?_)
    | (refine wv h (r_ldC (o := 4) h rfl K.u_string rfl 2 rfl) rfl ?_)
    | (refine wv h (r_ldC (o := 4) h rfl K.u_string rfl 3 rfl) rfl ?_)
    | (refine wv h (r_ldC (o := 4) h rfl K.u_string rfl 4 rfl) rfl ?_)
    | (refine wv h (r_ldC (o := 4) h rfl K.u_string rfl 5 rfl) rfl ?_)
    | (refine wv h (r_ldC (o := 4) h rfl K.u_string rfl 6 rfl) rfl ?_)
    | (refine wv h (r_load h rfl K.u_string rfl 0 rfl rfl) rfl ?_)
    | (refine wv h (r_load h rfl K.u_string rfl 1 rfl rfl) rfl ?_)
    | (refine wv h (r_load h rfl K.u_string rfl 2 rfl rfl) rfl ?_)
    | (refine wv h (r_load h rfl K.u_string rfl 3 rfl rfl) rfl ?_)
    | (refine wv h (r_load h rfl K.u_string rfl 4 rfl rfl) rfl ?_)
    | (refine wv h (r_load h rfl K.u_string rfl 5 rfl rfl) rfl ?_)
    | (refine wv h (r_load1 h rfl K.u_string rfl (by assumption)) rfl ?_)
  clear h a w; intro a w h
  refine wv h (r_build (cells := ⟨cellsE (nodeE e)⟩) h K.u_api_Elem K.z_api_Elem K.pl_api_Elem rfl (by kernel_rfl)) rfl ?_
  clear h a w; intro a w h
  refine wl rfl (op_alloc h K.z_api_Elem rfl ?_)
  clear h a w; intro b6 a w h
  first
    | (refine wl rfl (op_stA h rfl rfl K.sz_api_Elem (by first | exact Row.len _ | rfl | assumption | (simp; done) | (simp; omega) | omega) (by first | exact Row.one _ | exact bs_one _ | assumption | (simp; done) | (simp; (repeat' apply And.intro) <;> first | rfl | assumption)) 0 rfl (by first | rfl | assumption | (simp; done) | (simp; omega) | omega) ?_))
    | (refine wl rfl (op_stA h rfl rfl K.sz_api_Elem (by first | exact Row.len _ | rfl | assumption | (simp; done) | (simp; omega) | omega) (by first | exact Row.one _ | exact bs_one _ | assumption | (simp; done) | (simp; (repeat' apply And.intro) <;> first | rfl | assumption)) 1 rfl (by first | rfl | assumption | (simp; done) | (simp; omega) | omega) ?_))
    | (refine wl rfl (op_stA h rfl rfl K.sz_api_Elem (by first | exact Row.len _ | rfl | assumption | (simp; done) | (simp; omega) | omega) (by first | exact Row.one _ | exact bs_one _ | assumption | (simp; done) | (simp; (repeat' apply And.intro) <;> first | rfl | assumption)) 2 rfl (by first | rfl | assumption | (simp; done) | (simp; omega) | omega) ?_))
    | (refine wl rfl (op_stA h rfl rfl K.sz_api_Elem (by first | exact Row.len _ | rfl | assumption | (simp; done) | (simp; omega) | omega) (by first | exact Row.one _ | exact bs_one _ | assumption | (simp; done) | (simp; (repeat' apply And.intro) <;> first | rfl | assumption)) 3 rfl (by first | rfl | assumption | (simp; done) | (simp; omega) | omega) ?_))
    | (refine wl rfl (op_stA h rfl rfl K.sz_api_Elem (by first | exact Row.len _ | rfl | assumption | (simp; done) | (simp; omega) | omega) (by first | exact Row.one _ | exact bs_one _ | assumption | (simp; done) | (simp; (repeat' apply And.intro) <;> first | rfl | assumption)) 4 rfl (by first | rfl | assumption | (simp; done) | (simp; omega) | omega) ?_))
    | (refine wl rfl (op_stA h rfl rfl K.sz_api_Elem (by first | exact Row.len _ | rfl | assumption | (simp; done) | (simp; omega) | omega) (by first | exact Row.one _ | exact bs_one _ | assumption | (simp; done) | (simp; (repeat' apply And.intro) <;> first | rfl | assumption)) 5 rfl (by first | rfl | assumption | (simp; done) | (simp; omega) | omega) ?_))
  clear h a w; intro a w h
  (try simp only [List.set_cons_zero, List.set_cons_succ] at h)
  refine wnil (c_then ?_)
  refine c_seq ?_
  refine c_seq (c_region ?_)
  refine wv h (r_fieldAddr h 1 rfl K.u_api_Elem rfl K.sz_uint8 rfl rfl) rfl ?_
  clear h a w; intro a w h
  first
    | (refine wv h (r_ldN h rfl K.u_uint8 rfl 0 rfl rfl) rfl ?_)
    | (refine wv h (r_ldN h rfl K.u_uint8 rfl 1 rfl rfl) rfl ?_)
    | (refine wv h (r_ldN h rfl K.u_uint8 rfl 2 rfl rfl) rfl ?_)
    | (refine wv h (r_ldN h rfl K.u_uint8 rfl 3 rfl rfl) rfl ?_)
    | (refine wv h (r_ldN h rfl K.u_uint8 rfl 4 rfl rfl) rfl ?_)
    | (refine wv h (r_ldN h rfl K.u_uint8 rfl 5 rfl rfl) rfl ?_)
    | (refine wv h (r_ldN h rfl K.u_uint8 rfl 6 rfl rfl) rfl ?_)
    | (refine wv h (r_ldC (o := 1) h rfl K.u_uint8 rfl 0 rfl) rfl ?_)
    | (refine wv h (r_ldC (o := 1) h rfl K.u_uint8 rfl 1 rfl) rfl ?_)
    | (refine wv h (r_ldC (o := 1) h rfl K.u_uint8 rfl 2 rfl) rfl ?_)
    | (refine wv h (r_ldC (o := 1) h rfl K.u_uint8 rfl 3 rfl) rfl ?_)
    | (refine wv h (r_ldC (o := 1) h rfl K.u_uint8 rfl 4 rfl) rfl ?_)
    | (refine wv h (r_ldC (o := 1) h rfl K.u_uint8 rfl 5 rfl) rfl ?_)
    | (refine wv h (r_ldC (o := 1) h rfl K.u_uint8 rfl 6 rfl) rfl ?_)
    | (refine wv h (r_load h rfl K.u_uint8 rfl 0 rfl rfl) rfl ?_)
    | (refine wv h (r_load h rfl K.u_uint8 rfl 1 rfl rfl) rfl ?_)
    | (refine wv h (r_load h rfl K.u_uint8 rfl 2 rfl rfl) rfl ?_)
    | (refine wv h (r_load h rfl K.u_uint8 rfl 3 rfl rfl) rfl ?_)
    | (refine wv h (r_load h rfl K.u_uint8 rfl 4 rfl rfl) rfl ?_)
    | (refine wv h (r_load h rfl K.u_uint8 rfl 5 rfl rfl) rfl ?_)
    | (refine wv h (r_load1 h rfl K.u_uint8 rfl (by assumption)) rfl ?_)
  clear h a w; intro a w h
  refine wnil (c_then ?_)
  refine c_block ?_
  refine c_meet h (X := Unit) (fun _ => [(3, .pointer (some ⟨b3, 0, none⟩)), (5, .pointer (some ⟨b5, 0, none⟩)), (6, .pointer (some ⟨b6, 0, none⟩)), (36, bv e.kind), (37, .bool (decide (e.kind = 1) || decide (e.kind = 2)))]) (fun _ => Blk b6 (.cells ⟨cellsE (nodeE e)⟩ t_api_Elem) :: Blk b5 (.cells ⟨cellsE (transE e)⟩ t_api_Elem) :: Blk b3 (.cells ⟨cellsE e⟩ t_api_Elem) :: F) (fun _ => True) ?_ ?_
  ·
   refine c_seq (c_region ?_)
   refine wv h (r_bin h rfl rfl (B.eql_u8 (y := 1))) rfl ?_
   clear h a w; intro a w h
   refine wv h (r_assign h rfl) rfl ?_
   clear h a w; intro a w h
   refine wnil (c_then ?_)
   first
    | refine c_condD h rfl (fun ht1 => ?_) (fun ht1 => ?_)
    | refine c_condP h rfl (by first | (simp only [Bool.and_eq_true, Bool.or_eq_true, Bool.not_eq_true', decide_eq_true_eq, decide_eq_false_iff_not, ne_eq, Bool.not_eq_eq_eq_not, Bool.not_true, beq_iff_eq, bne_iff_ne]; exact Iff.rfl) | exact Iff.rfl) (fun ht1 => ?_) (fun ht1 => ?_)
   ·
    refine c_skip ?_
    exact ⟨(), by rw [decide_eq_true ht1] at h ⊢; exact h.keep [3, 5, 6, 36, 37], trivial⟩
   ·
    refine c_region ?_
    refine wv h (r_bin h rfl rfl (B.eql_u8 (y := 2))) rfl ?_
    clear h a w; intro a w h
    refine wv h (r_assign h rfl) rfl ?_
    clear h a w; intro a w h
    refine wnil ?_
    exact ⟨(), by rw [decide_eq_false ht1, Bool.false_or]; exact h.keep [3, 5, 6, 36, 37], trivial⟩
  ·
   clear h a w; intro z a w hz h
   refine c_cond h rfl (fun ht2 => ?_) (fun ht2 => ?_)
   ·
    as_aux_lemma =>
     refine c_seq (c_region ?_)
     first
          | (refine wv h (r_ldA h rfl K.u_api_Elem rfl K.sz_api_Elem 0 rfl (by first | exact Row.len _ | rfl | assumption | (simp; done) | (simp; omega) | omega)) rfl ?_)
          | (refine wv h (r_ldA h rfl K.u_api_Elem rfl K.sz_api_Elem 1 rfl (by first | exact Row.len _ | rfl | assumption | (simp; done) | (simp; omega) | omega)) rfl ?_)
          | (refine wv h (r_ldA h rfl K.u_api_Elem rfl K.sz_api_Elem 2 rfl (by first | exact Row.len _ | rfl | assumption | (simp; done) | (simp; omega) | omega)) rfl ?_)
          | (refine wv h (r_ldA h rfl K.u_api_Elem rfl K.sz_api_Elem 3 rfl (by first | exact Row.len _ | rfl | assumption | (simp; done) | (simp; omega) | omega)) rfl ?_)
          | (refine wv h (r_ldA h rfl K.u_api_Elem rfl K.sz_api_Elem 4 rfl (by first | exact Row.len _ | rfl | assumption | (simp; done) | (simp; omega) | omega)) rfl ?_)
          | (refine wv h (r_ldA h rfl K.u_api_Elem rfl K.sz_api_Elem 5 rfl (by first | exact Row.len _ | rfl | assumption | (simp; done) | (simp; omega) | omega)) rfl ?_)
          | (refine wv h (r_loadCA h rfl K.u_api_Elem rfl K.sz_api_Elem (by assumption) (by first | rfl | assumption | (simp; done) | (simp; omega) | omega)) rfl ?_)
     clear h a w; intro a w h
     first
          | (refine wv h (r_ldA h rfl K.u_api_Elem rfl K.sz_api_Elem 0 rfl (by first | exact Row.len _ | rfl | assumption | (simp; done) | (simp; omega) | omega)) rfl ?_)
          | (refine wv h (r_ldA h rfl K.u_api_Elem rfl K.sz_api_Elem 1 rfl (by first | exact Row.len _ | rfl | assumption | (simp; done) | (simp; omega) | omega)) rfl ?_)
          | (refine wv h (r_ldA h rfl K.u_api_Elem rfl K.sz_api_Elem 2 rfl (by first | exact Row.len _ | rfl | assumption | (simp; done) | (simp; omega) | omega)) rfl ?_)
          | (refine wv h (r_ldA h rfl K.u_api_Elem rfl K.sz_api_Elem 3 rfl (by first | exact Row.len _ | rfl | assumption | (simp; done) | (simp; omega) | omega)) rfl ?_)
          | (refine wv h (r_ldA h rfl K.u_api_Elem rfl K.sz_api_Elem 4 rfl (by first | exact Row.len _ | rfl | assumption | (simp; done) | (simp; omega) | omega)) rfl ?_)
          | (refine wv h (r_ldA h rfl K.u_api_Elem rfl K.sz_api_Elem 5 rfl (by first | exact Row.len _ | rfl | assumption | (simp; done) | (simp; omega) | omega)) rfl ?_)
          | (refine wv h (r_loadCA h rfl K.u_api_Elem rfl K.sz_api_Elem (by assumption) (by first | rfl | assumption | (simp; done) | (simp; omega) | omega)) rfl ?_)
     clear h a w; intro a w h
     refine wv h (r_elemne (e := e) (e' := nodeE e) h rfl rfl) rfl ?_
     clear h a w; intro a w h
     refine wv h (r_assign h rfl) rfl ?_
     clear h a w; intro a w h
     refine wnil (c_then ?_)
     refine c_ret ?_
     exact ret1 h rfl rfl ⟨(), by rw [kd12 ht2], h.2.drop 3, trivial⟩
   ·
    refine c_meet h (X := Unit) (fun _ => [(3, .pointer (some ⟨b3, 0, none⟩)), (5, .pointer (some ⟨b5, 0, none⟩)), (6, .pointer (some ⟨b6, 0, none⟩)), (36, bv e.kind), (43, .bool (decide (e.kind = 3) || decide (e.kind = 4)))]) (fun _ => Blk b6 (.cells ⟨cellsE (nodeE e)⟩ t_api_Elem) :: Blk b5 (.cells ⟨cellsE (transE e)⟩ t_api_Elem) :: Blk b3 (.cells ⟨cellsE e⟩ t_api_Elem) :: F) (fun _ => True) ?_ ?_
    ·
     refine c_seq (c_region ?_)
     refine wv h (r_bin h rfl rfl (B.eql_u8 (y := 3))) rfl ?_
     clear h a w; intro a w h
     refine wv h (r_assign h rfl) rfl ?_
     clear h a w; intro a w h
     refine wnil (c_then ?_)
     first
      | refine c_condD h rfl (fun ht3 => ?_) (fun ht3 => ?_)
      | refine c_condP h rfl (by first | (simp only [Bool.and_eq_true, Bool.or_eq_true, Bool.not_eq_true', decide_eq_true_eq, decide_eq_false_iff_not, ne_eq, Bool.not_eq_eq_eq_not, Bool.not_true, beq_iff_eq, bne_iff_ne]; exact Iff.rfl) | exact Iff.rfl) (fun ht3 => ?_) (fun ht3 => ?_)
     ·
      refine c_skip ?_
      exact ⟨(), by rw [decide_eq_true ht3] at h ⊢; exact h.keep [3, 5, 6, 36, 43], trivial⟩
     ·
      refine c_region ?_
      refine wv h (r_bin h rfl rfl (B.eql_u8 (y := 4))) rfl ?_
      clear h a w; intro a w h
      refine wv h (r_assign h rfl) rfl ?_
      clear h a w; intro a w h
      refine wnil ?_
      exact ⟨(), by rw [decide_eq_false ht3, Bool.false_or]; exact h.keep [3, 5, 6, 36, 43], trivial⟩
    ·
     clear h a w; intro z a w hz h
     refine c_cond h rfl (fun ht4 => ?_) (fun ht4 => ?_)
     ·
      as_aux_lemma =>
       refine c_seq (c_region ?_)
       refine wv h (r_fieldAddr h 4 rfl K.u_api_Elem rfl K.sz_string rfl rfl) rfl ?_
       clear h a w; intro a w h
       first
              | (refine wl rfl (op_storeN h rfl rfl K.sz_string (by first | rfl | assumption | exact Views.oneCell (Views.own 0 rfl) h.2 | exact Views.oneCell (Views.own 1 rfl) h.2 | exact Views.oneCell (Views.own 2 rfl) h.2 | exact Views.oneCell (Views.own 3 rfl) h.2 | exact Views.oneCell (Views.own 4 rfl) h.2 | exact Views.oneCell (Views.own 5 rfl) h.2 | exact Views.oneCell (by assumption) h.2) 0 rfl rfl ?_))
              | (refine wl rfl (op_storeN h rfl rfl K.sz_string (by first | rfl | assumption | exact Views.oneCell (Views.own 0 rfl) h.2 | exact Views.oneCell (Views.own 1 rfl) h.2 | exact Views.oneCell (Views.own 2 rfl) h.2 | exact Views.oneCell (Views.own 3 rfl) h.2 | exact Views.oneCell (Views.own 4 rfl) h.2 | exact Views.oneCell (Views.own 5 rfl) h.2 | exact Views.oneCell (by assumption) h.2) 1 rfl rfl ?_))
              | (refine wl rfl (op_storeN h rfl rfl K.sz_string (by first | rfl | assumption | exact Views.oneCell (Views.own 0 rfl) h.2 | exact Views.oneCell (Views.own 1 rfl) h.2 | exact Views.oneCell (Views.own 2 rfl) h.2 | exact Views.oneCell (Views.own 3 rfl) h.2 | exact Views.oneCell (Views.own 4 rfl) h.2 | exact Views.oneCell (Views.own 5 rfl) h.2 | exact Views.oneCell (by assumption) h.2) 2 rfl rfl ?_))
              | (refine wl rfl (op_storeN h rfl rfl K.sz_string (by first | rfl | assumption | exact Views.oneCell (Views.own 0 rfl) h.2 | exact Views.oneCell (Views.own 1 rfl) h.2 | exact Views.oneCell (Views.own 2 rfl) h.2 | exact Views.oneCell (Views.own 3 rfl) h.2 | exact Views.oneCell (Views.own 4 rfl) h.2 | exact Views.oneCell (Views.own 5 rfl) h.2 | exact Views.oneCell (by assumption) h.2) 3 rfl rfl ?_))
              | (refine wl rfl (op_storeN h rfl rfl K.sz_string (by first | rfl | assumption | exact Views.oneCell (Views.own 0 rfl) h.2 | exact Views.oneCell (Views.own 1 rfl) h.2 | exact Views.oneCell (Views.own 2 rfl) h.2 | exact Views.oneCell (Views.own 3 rfl) h.2 | exact Views.oneCell (Views.own 4 rfl) h.2 | exact Views.oneCell (Views.own 5 rfl) h.2 | exact Views.oneCell (by assumption) h.2) 4 rfl rfl ?_))
              | (refine wl rfl (op_storeN h rfl rfl K.sz_string (by first | rfl | assumption | exact Views.oneCell (Views.own 0 rfl) h.2 | exact Views.oneCell (Views.own 1 rfl) h.2 | exact Views.oneCell (Views.own 2 rfl) h.2 | exact Views.oneCell (Views.own 3 rfl) h.2 | exact Views.oneCell (Views.own 4 rfl) h.2 | exact Views.oneCell (Views.own 5 rfl) h.2 | exact Views.oneCell (by assumption) h.2) 5 rfl rfl ?_))
              | (refine wl rfl (op_storeN h rfl rfl K.sz_string (by first | rfl | assumption | exact Views.oneCell (Views.own 0 rfl) h.2 | exact Views.oneCell (Views.own 1 rfl) h.2 | exact Views.oneCell (Views.own 2 rfl) h.2 | exact Views.oneCell (Views.own 3 rfl) h.2 | exact Views.oneCell (Views.own 4 rfl) h.2 | exact Views.oneCell (Views.own 5 rfl) h.2 | exact Views.oneCell (by assumption) h.2) 6 rfl rfl ?_))
              | (refine wl rfl (op_storeC (o := 4) h rfl rfl K.sz_string (by first | rfl | assumption | exact Views.oneCell (Views.own 0 rfl) h.2 | exact Views.oneCell (Views.own 1 rfl) h.2 | exact Views.oneCell (Views.own 2 rfl) h.2 | exact Views.oneCell (Views.own 3 rfl) h.2 | exact Views.oneCell (Views.own 4 rfl) h.2 | exact Views.oneCell (Views.own 5 rfl) h.2 | exact Views.oneCell (by assumption) h.2) 0 rfl ?_))
              | (refine wl rfl (op_storeC (o := 4) h rfl rfl K.sz_string (by first | rfl | assumption | exact Views.oneCell (Views.own 0 rfl) h.2 | exact Views.oneCell (Views.own 1 rfl) h.2 | exact Views.oneCell (Views.own 2 rfl) h.2 | exact Views.oneCell (Views.own 3 rfl) h.2 | exact Views.oneCell (Views.own 4 rfl) h.2 | exact Views.oneCell (Views.own 5 rfl) h.2 | exact Views.oneCell (by assumption) h.2) 1 rfl ?_))
              | (refine wl rfl (op_storeC (o := 4) h rfl rfl K.sz_string (by first | rfl | assumption | exact Views.oneCell (Views.own 0 rfl) h.2 | exact Views.oneCell (Views.own 1 rfl) h.2 | exact Views.oneCell (Views.own 2 rfl) h.2 | exact Views.oneCell (Views.own 3 rfl) h.2 | exact Views.oneCell (Views.own 4 rfl) h.2 | exact Views.oneCell (Views.own 5 rfl) h.2 | exact Views.oneCell (by assumption) h.2) 2 rfl ?_))
              | (refine wl rfl (op_storeC (o := 4) h rfl rfl K.sz_string (by first | rfl | assumption | exact Views.oneCell (Views.own 0 rfl) h.2 | exact Views.oneCell (Views.own 1 rfl) h.2 | exact Views.oneCell (Views.own 2 rfl) h.2 | exact Views.oneCell (Views.own 3 rfl) h.2 | exact Views.oneCell (Views.own 4 rfl) h.2 | exact Views.oneCell (Views.own 5 rfl) h.2 | exact Views.oneCell (by assumption) h.2) 3 rfl ?_))
              | (refine wl rfl (op_storeC (o := 4) h rfl rfl K.sz_string (by first | rfl | assumption | exact Views.oneCell (Views.own 0 rfl) h.2 | exact Views.oneCell (Views.own 1 rfl) h.2 | exact Views.oneCell (Views.own 2 rfl) h.2 | exact Views.oneCell (Views.own 3 rfl) h.2 | exact Views.oneCell (Views.own 4 rfl) h.2 | exact Views.oneCell (Views.own 5 rfl) h.2 | exact Views.oneCell (by assumption) h.2) 4 rfl ?_))
              | (refine wl rfl (op_storeC (o := 4) h rfl rfl K.sz_string (by first | rfl | assumption | exact Views.oneCell (Views.own 0 rfl) h.2 | exact Views.oneCell (Views.own 1 rfl) h.2 | exact Views.oneCell (Views.own 2 rfl) h.2 | exact Views.oneCell (Views.own 3 rfl) h.2 | exact Views.oneCell (Views.own 4 rfl) h.2 | exact Views.oneCell (Views.own 5 rfl) h.2 | exact Views.oneCell (by assumption) h.2) 5 rfl ?_))
              | (refine wl rfl (op_storeC (o := 4) h rfl rfl K.sz_string (by first | rfl | assumption | exact Views.oneCell (Views.own 0 rfl) h.2 | exact Views.oneCell (Views.own 1 rfl) h.2 | exact Views.oneCell (Views.own 2 rfl) h.2 | exact Views.oneCell (Views.own 3 rfl) h.2 | exact Views.oneCell (Views.own 4 rfl) h.2 | exact Views.oneCell (Views.own 5 rfl) h.2 | exact Views.oneCell (by assumption) h.2) 6 rfl ?_))
       clear h a w; intro a w h
       (try simp only [List.set_cons_zero, List.set_cons_succ] at h)
       refine wnil (c_then ?_)
       refine c_seq (c_region ?_)
       first
              | (refine wv h (r_ldA h rfl K.u_api_Elem rfl K.sz_api_Elem 0 rfl (by first | exact Row.len _ | rfl | assumption | (simp; done) | (simp; omega) | omega)) rfl ?_)
              | (refine wv h (r_ldA h rfl K.u_api_Elem rfl K.sz_api_Elem 1 rfl (by first | exact Row.len _ | rfl | assumption | (simp; done) | (simp; omega) | omega)) rfl ?_)
              | (refine wv h (r_ldA h rfl K.u_api_Elem rfl K.sz_api_Elem 2 rfl (by first | exact Row.len _ | rfl | assumption | (simp; done) | (simp; omega) | omega)) rfl ?_)
              | (refine wv h (r_ldA h rfl K.u_api_Elem rfl K.sz_api_Elem 3 rfl (by first | exact Row.len _ | rfl | assumption | (simp; done) | (simp; omega) | omega)) rfl ?_)
              | (refine wv h (r_ldA h rfl K.u_api_Elem rfl K.sz_api_Elem 4 rfl (by first | exact Row.len _ | rfl | assumption | (simp; done) | (simp; omega) | omega)) rfl ?_)
              | (refine wv h (r_ldA h rfl K.u_api_Elem rfl K.sz_api_Elem 5 rfl (by first | exact Row.len _ | rfl | assumption | (simp; done) | (simp; omega) | omega)) rfl ?_)
              | (refine wv h (r_loadCA h rfl K.u_api_Elem rfl K.sz_api_Elem (by assumption) (by first | rfl | assumption | (simp; done) | (simp; omega) | omega)) rfl ?_)
       clear h a w; intro a w h
       first
              | (refine wv h (r_ldA h rfl K.u_api_Elem rfl K.sz_api_Elem 0 rfl (by first | exact Row.len _ | rfl | assumption | (simp; done) | (simp; omega) | omega)) rfl ?_)
              | (refine wv h (r_ldA h rfl K.u_api_Elem rfl K.sz_api_Elem 1 rfl (by first | exact Row.len _ | rfl | assumption | (simp; done) | (simp; omega) | omega)) rfl ?_)
              | (refine wv h (r_ldA h rfl K.u_api_Elem rfl K.sz_api_Elem 2 rfl (by first | exact Row.len _ | rfl | assumption | (simp; done) | (simp; omega) | omega)) rfl ?_)
              | (refine wv h (r_ldA h rfl K.u_api_Elem rfl K.sz_api_Elem 3 rfl (by first | exact Row.len _ | rfl | assumption | (simp; done) | (simp; omega) | omega)) rfl ?_)
              | (refine wv h (r_ldA h rfl K.u_api_Elem rfl K.sz_api_Elem 4 rfl (by first | exact Row.len _ | rfl | assumption | (simp; done) | (simp; omega) | omega)) rfl ?_)
              | (refine wv h (r_ldA h rfl K.u_api_Elem rfl K.sz_api_Elem 5 rfl (by first | exact Row.len _ | rfl | assumption | (simp; done) | (simp; omega) | omega)) rfl ?_)
              | (refine wv h (r_loadCA h rfl K.u_api_Elem rfl K.sz_api_Elem (by assumption) (by first | rfl | assumption | (simp; done) | (simp; omega) | omega)) rfl ?_)
       clear h a w; intro a w h
       refine wv h (r_elemne (e := e) (e' := nodeN e) h rfl rfl) rfl ?_
       clear h a w; intro a w h
       refine wv h (r_assign h rfl) rfl ?_
       clear h a w; intro a w h
       refine wnil (c_then ?_)
       refine c_ret ?_
       exact ret1 h rfl rfl ⟨(), by rw [kd34 ht4], h.2.drop 3, trivial⟩
     ·
      refine c_seq (c_region ?_)
      refine wv h (r_bin h rfl rfl (B.eql_u8 (y := 5))) rfl ?_
      clear h a w; intro a w h
      refine wv h (r_assign h rfl) rfl ?_
      clear h a w; intro a w h
      refine wnil (c_then ?_)
      first
       | refine c_condD h rfl (fun ht5 => ?_) (fun ht5 => ?_)
       | refine c_condP h rfl (by first | (simp only [Bool.and_eq_true, Bool.or_eq_true, Bool.not_eq_true', decide_eq_true_eq, decide_eq_false_iff_not, ne_eq, Bool.not_eq_eq_eq_not, Bool.not_true, beq_iff_eq, bne_iff_ne]; exact Iff.rfl) | exact Iff.rfl) (fun ht5 => ?_) (fun ht5 => ?_)
      ·
       as_aux_lemma =>
        refine c_seq (c_region ?_)
        first
                | (refine wv h (r_ldA h rfl K.u_api_Elem rfl K.sz_api_Elem 0 rfl (by first | exact Row.len _ | rfl | assumption | (simp; done) | (simp; omega) | omega)) rfl ?_)
                | (refine wv h (r_ldA h rfl K.u_api_Elem rfl K.sz_api_Elem 1 rfl (by first | exact Row.len _ | rfl | assumption | (simp; done) | (simp; omega) | omega)) rfl ?_)
                | (refine wv h (r_ldA h rfl K.u_api_Elem rfl K.sz_api_Elem 2 rfl (by first | exact Row.len _ | rfl | assumption | (simp; done) | (simp; omega) | omega)) rfl ?_)
                | (refine wv h (r_ldA h rfl K.u_api_Elem rfl K.sz_api_Elem 3 rfl (by first | exact Row.len _ | rfl | assumption | (simp; done) | (simp; omega) | omega)) rfl ?_)
                | (refine wv h (r_ldA h rfl K.u_api_Elem rfl K.sz_api_Elem 4 rfl (by first | exact Row.len _ | rfl | assumption | (simp; done) | (simp; omega) | omega)) rfl ?_)
                | (refine wv h (r_ldA h rfl K.u_api_Elem rfl K.sz_api_Elem 5 rfl (by first | exact Row.len _ | rfl | assumption | (simp; done) | (simp; omega) | omega)) rfl ?_)
                | (refine wv h (r_loadCA h rfl K.u_api_Elem rfl K.sz_api_Elem (by assumption) (by first | rfl | assumption | (simp; done) | (simp; omega) | omega)) rfl ?_)
        clear h a w; intro a w h
        first
                | (refine wv h (r_ldA h rfl K.u_api_Elem rfl K.sz_api_Elem 0 rfl (by first | exact Row.len _ | rfl | assumption | (simp; done) | (simp; omega) | omega)) rfl ?_)
                | (refine wv h (r_ldA h rfl K.u_api_Elem rfl K.sz_api_Elem 1 rfl (by first | exact Row.len _ | rfl | assumption | (simp; done) | (simp; omega) | omega)) rfl ?_)
                | (refine wv h (r_ldA h rfl K.u_api_Elem rfl K.sz_api_Elem 2 rfl (by first | exact Row.len _ | rfl | assumption | (simp; done) | (simp; omega) | omega)) rfl ?_)
                | (refine wv h (r_ldA h rfl K.u_api_Elem rfl K.sz_api_Elem 3 rfl (by first | exact Row.len _ | rfl | assumption | (simp; done) | (simp; omega) | omega)) rfl ?_)
                | (refine wv h (r_ldA h rfl K.u_api_Elem rfl K.sz_api_Elem 4 rfl (by first | exact Row.len _ | rfl | assumption | (simp; done) | (simp; omega) | omega)) rfl ?_)
                | (refine wv h (r_ldA h rfl K.u_api_Elem rfl K.sz_api_Elem 5 rfl (by first | exact Row.len _ | rfl | assumption | (simp; done) | (simp; omega) | omega)) rfl ?_)
                | (refine wv h (r_loadCA h rfl K.u_api_Elem rfl K.sz_api_Elem (by assumption) (by first | rfl | assumption | (simp; done) | (simp; omega) | omega)) rfl ?_)
        clear h a w; intro a w h
        refine wv h (r_elemne (e := e) (e' := transE e) h rfl rfl) rfl ?_
        clear h a w; intro a w h
        refine wv h (r_assign h rfl) rfl ?_
        clear h a w; intro a w h
        refine wnil (c_then ?_)
        refine c_ret ?_
        exact ret1 h rfl rfl ⟨(), by rw [kd5 ht5], h.2.drop 3, trivial⟩
      ·
       refine c_skip ?_
       refine b_normal ?_
       refine c_then ?_
       refine c_seq (c_region ?_)
       refine wv h (r_assign h rfl) rfl ?_
       clear h a w; intro a w h
       refine wnil (c_then ?_)
       refine c_ret ?_
       exact ret1 h rfl rfl ⟨(), by rw [kdn ht2 ht4 ht5], h.2.drop 3, trivial⟩

theorem hit3_eq {e x : El} (h : namedE e = true) : (decide (x.id ≠ e.id) && namedE x && decide (x.parent = e.parent) && decide (x.name = e.name)) = hit3 e x := by
  rw [hit3, h, Bool.true_and, Bool.and_comm (namedE x)]
theorem rules_names (s w : World) (v : Value) (l : List El) (e : El) (F : List HItem) (hl : l.length ≤ 1000) (hv : Views F 10 v l.length (l.flatMap cellsE)) (hs : Sat s w F) :
    Calls P n_rules_names #[v, .agg ⟨cellsE e⟩] w (Ret s (fun _ : Unit => .bool (brk3 l e)) (fun _ => F) (fun _ => True)) := by
  refine enter K.fn_rules_names rfl K.nt_rules_names rfl hs ?_
  clear hs w; intro a w h
  refine c_seq (c_region ?_)
  refine wl rfl (op_box h rfl rfl ?_)
  clear h a w; intro b3 a w h
  try simp only [Value.cells] at h
  refine wv h (r_assign h rfl) rfl ?_
  clear h a w; intro a w h
  refine wnil (c_then ?_)
  refine c_seq ?_
  refine c_seq (c_region ?_)
  first
    | (refine wv h (r_ldA h rfl K.u_api_Elem rfl K.sz_api_Elem 0 rfl (by first | exact Row.len _ | rfl | assumption | (simp; done) | (simp; omega) | omega)) rfl ?_)
    | (refine wv h (r_ldA h rfl K.u_api_Elem rfl K.sz_api_Elem 1 rfl (by first | exact Row.len _ | rfl | assumption | (simp; done) | (simp; omega) | omega)) rfl ?_)
    | (refine wv h (r_ldA h rfl K.u_api_Elem rfl K.sz_api_Elem 2 rfl (by first | exact Row.len _ | rfl | assumption | (simp; done) | (simp; omega) | omega)) rfl ?_)
    | (refine wv h (r_ldA h rfl K.u_api_Elem rfl K.sz_api_Elem 3 rfl (by first | exact Row.len _ | rfl | assumption | (simp; done) | (simp; omega) | omega)) rfl ?_)
    | (refine wv h (r_ldA h rfl K.u_api_Elem rfl K.sz_api_Elem 4 rfl (by first | exact Row.len _ | rfl | assumption | (simp; done) | (simp; omega) | omega)) rfl ?_)
    | (refine wv h (r_ldA h rfl K.u_api_Elem rfl K.sz_api_Elem 5 rfl (by first | exact Row.len _ | rfl | assumption | (simp; done) | (simp; omega) | omega)) rfl ?_)
    | (refine wv h (r_loadCA h rfl K.u_api_Elem rfl K.sz_api_Elem (by assumption) (by first | rfl | assumption | (simp; done) | (simp; omega) | omega)) rfl ?_)
  clear h a w; intro a w h
  refine wl rfl (op_call h rfl K.go_rules_named (rules_named s _ _ _ h.2) rfl ?_)
  clear h a w; intro x a w hx h
  (try simp only [List.set_cons_zero, List.set_cons_succ] at h)
  refine wv h (r_not h rfl) rfl ?_
  clear h a w; intro a w h
  refine wnil (c_then ?_)
  refine c_cond h rfl (fun ht1 => ?_) (fun ht1 => ?_)
  ·
   have hn : namedE e = false := by simpa using ht1
   have hno : l.any (hit3 e) = false := by
     rw [List.any_eq_false]; intro x _; simp [hit3, hn]
   as_aux_lemma =>
    refine c_seq (c_region ?_)
    refine wv h (r_assign h rfl) rfl ?_
    clear h a w; intro a w h
    refine wnil (c_then ?_)
    refine c_ret ?_
    exact ret1 h rfl rfl ⟨(), by rw [brk3, hno, hn]; rfl, h.2.drop 1, trivial⟩
  ·
   have hn : namedE e = true := by simpa using ht1
   refine c_skip ?_
   refine c_then ?_
   refine c_seq ?_
   refine c_seq (c_region ?_)
   refine wv h (r_move h rfl) rfl ?_
   clear h a w; intro a w h
   refine wv h (r_lenV h rfl K.u_api_Chart (by first | exact Views.own 0 rfl | exact Views.own 1 rfl | exact Views.own 2 rfl | exact Views.own 3 rfl | exact Views.own 4 rfl | exact Views.own 5 rfl | assumption | exact Views.of_drop 1 (by assumption) | exact Views.of_drop 2 (by assumption) | exact Views.of_drop 3 (by assumption) | exact Views.of_drop 4 (by assumption) | exact Views.of_drop 5 (by assumption) | exact Views.of_drop 6 (by assumption) | exact Views.of_drop 7 (by assumption) | exact Views.of_drop 8 (by assumption) | exact Views.of_drop 9 (by assumption) | exact Views.of_drop 10 (by assumption) | exact Views.of_drop 11 (by assumption) | exact Views.of_drop 12 (by assumption))) rfl ?_
   clear h a w; intro a w h
   refine wv h (r_move h rfl) rfl ?_
   clear h a w; intro a w h
   refine wnil (c_then ?_)
   refine c_block ?_
   refine c_loopX h (X := Nat) (fun i => [(3, .pointer (some ⟨b3, 0, none⟩)), (10, v), (11, .int .i64 (l.length : Int)), (12, .int .i64 (i : Int))]) (fun _ => Blk b3 (.cells ⟨cellsE e⟩ t_api_Elem) :: F) (fun i => i ≤ l.length ∧ (l.drop i).any (hit3 e) = l.any (hit3 e)) (fun i => l.length - i) 0 (h.keep [3, 10, 11, 12]) ⟨Nat.zero_le _, rfl⟩ ?_
   clear h a w; intro i a w hx h
   obtain ⟨hx1, hx2⟩ := hx
   as_aux_lemma =>
    refine c_seq (c_region ?_)
    refine wv h (r_bin h rfl rfl (B.lss_int)) rfl ?_
    clear h a w; intro a w h
    refine wnil (c_then ?_)
    refine c_seq ?_
    first
     | refine c_condD h rfl (fun ht2 => ?_) (fun ht2 => ?_)
     | refine c_condP h rfl (by first | (simp only [Bool.and_eq_true, Bool.or_eq_true, Bool.not_eq_true', decide_eq_true_eq, decide_eq_false_iff_not, ne_eq, Bool.not_eq_eq_eq_not, Bool.not_true, beq_iff_eq, bne_iff_ne]; exact Iff.rfl) | exact Iff.rfl) (fun ht2 => ?_) (fun ht2 => ?_)
    ·
     obtain ⟨x, hex⟩ := get_some (l := l) (i := i) (by omega)
     rw [any_drop hex] at hx2
     refine c_skip ?_
     refine c_then ?_
     refine c_seq ?_
     refine c_block ?_
     refine c_seq (c_region ?_)
     refine wv h (r_elP h rfl rfl K.u_api_Chart K.sz_api_Elem (by first | exact Views.own 0 rfl | exact Views.own 1 rfl | exact Views.own 2 rfl | exact Views.own 3 rfl | exact Views.own 4 rfl | exact Views.own 5 rfl | assumption | exact Views.of_drop 1 (by assumption) | exact Views.of_drop 2 (by assumption) | exact Views.of_drop 3 (by assumption) | exact Views.of_drop 4 (by assumption) | exact Views.of_drop 5 (by assumption) | exact Views.of_drop 6 (by assumption) | exact Views.of_drop 7 (by assumption) | exact Views.of_drop 8 (by assumption) | exact Views.of_drop 9 (by assumption) | exact Views.of_drop 10 (by assumption) | exact Views.of_drop 11 (by assumption) | exact Views.of_drop 12 (by assumption)) (by first | omega | (simp; done)) (by first | omega | (simp only [List.length_cons, List.length_nil]; omega) | (simp; done) | (simp; omega))) rfl ?_
     clear h a w; intro a w h
     first
          | (refine wv h (r_elM h rfl K.u_api_Elem rfl K.sz_api_Elem rfl (by first | exact Views.own 0 rfl | exact Views.own 1 rfl | exact Views.own 2 rfl | exact Views.own 3 rfl | exact Views.own 4 rfl | exact Views.own 5 rfl | assumption | exact Views.of_drop 1 (by assumption) | exact Views.of_drop 2 (by assumption) | exact Views.of_drop 3 (by assumption) | exact Views.of_drop 4 (by assumption) | exact Views.of_drop 5 (by assumption) | exact Views.of_drop 6 (by assumption) | exact Views.of_drop 7 (by assumption) | exact Views.of_drop 8 (by assumption) | exact Views.of_drop 9 (by assumption) | exact Views.of_drop 10 (by assumption) | exact Views.of_drop 11 (by assumption) | exact Views.of_drop 12 (by assumption)) (by assumption)) rfl ?_)
          | (refine wv h (r_elMd h rfl K.u_api_Elem rfl K.sz_api_Elem rfl (by first | exact Views.own 0 rfl | exact Views.own 1 rfl | exact Views.own 2 rfl | exact Views.own 3 rfl | exact Views.own 4 rfl | exact Views.own 5 rfl | assumption | exact Views.of_drop 1 (by assumption) | exact Views.of_drop 2 (by assumption) | exact Views.of_drop 3 (by assumption) | exact Views.of_drop 4 (by assumption) | exact Views.of_drop 5 (by assumption) | exact Views.of_drop 6 (by assumption) | exact Views.of_drop 7 (by assumption) | exact Views.of_drop 8 (by assumption) | exact Views.of_drop 9 (by assumption) | exact Views.of_drop 10 (by assumption) | exact Views.of_drop 11 (by assumption) | exact Views.of_drop 12 (by assumption)) (by first | omega | (simp only [List.length_cons, List.length_nil]; omega) | (simp; done) | (simp; omega))) rfl ?_)
     clear h a w; intro a w h
     refine wl rfl (op_alloc h K.z_api_Elem rfl ?_)
     clear h a w; intro b6 a w h
     first
          | (refine wl rfl (op_stA h rfl rfl K.sz_api_Elem (by first | exact Row.len _ | rfl | assumption | (simp; done) | (simp; omega) | omega) (by first | exact Row.one _ | exact bs_one _ | assumption | (simp; done) | (simp; (repeat' apply And.intro) <;> first | rfl | assumption)) 0 rfl (by first | rfl | assumption | (simp; done) | (simp; omega) | omega) ?_))
          | (refine wl rfl (op_stA h rfl rfl K.sz_api_Elem (by first | exact Row.len _ | rfl | assumption | (simp; done) | (simp; omega) | omega) (by first | exact Row.one _ | exact bs_one _ | assumption | (simp; done) | (simp; (repeat' apply And.intro) <;> first | rfl | assumption)) 1 rfl (by first | rfl | assumption | (simp; done) | (simp; omega) | omega) ?_))
          | (refine wl rfl (op_stA h rfl rfl K.sz_api_Elem (by first | exact Row.len _ | rfl | assumption | (simp; done) | (simp; omega) | omega) (by first | exact Row.one _ | exact bs_one _ | assumption | (simp; done) | (simp; (repeat' apply And.intro) <;> first | rfl | assumption)) 2 rfl (by first | rfl | assumption | (simp; done) | (simp; omega) | omega) ?_))
          | (refine wl rfl (op_stA h rfl rfl K.sz_api_Elem (by first | exact Row.len _ | rfl | assumption | (simp; done) | (simp; omega) | omega) (by first | exact Row.one _ | exact bs_one _ | assumption | (simp; done) | (simp; (repeat' apply And.intro) <;> first | rfl | assumption)) 3 rfl (by first | rfl | assumption | (simp; done) | (simp; omega) | omega) ?_))
          | (refine wl rfl (op_stA h rfl rfl K.sz_api_Elem (by first | exact Row.len _ | rfl | assumption | (simp; done) | (simp; omega) | omega) (by first | exact Row.one _ | exact bs_one _ | assumption | (simp; done) | (simp; (repeat' apply And.intro) <;> first | rfl | assumption)) 4 rfl (by first | rfl | assumption | (simp; done) | (simp; omega) | omega) ?_))
          | (refine wl rfl (op_stA h rfl rfl K.sz_api_Elem (by first | exact Row.len _ | rfl | assumption | (simp; done) | (simp; omega) | omega) (by first | exact Row.one _ | exact bs_one _ | assumption | (simp; done) | (simp; (repeat' apply And.intro) <;> first | rfl | assumption)) 5 rfl (by first | rfl | assumption | (simp; done) | (simp; omega) | omega) ?_))
     clear h a w; intro a w h
     (try simp only [List.set_cons_zero, List.set_cons_succ] at h)
     refine wnil (c_then ?_)
     refine c_seq (c_region ?_)
     refine wv h (r_fieldAddr0 h rfl K.u_api_Elem rfl K.sz_int rfl rfl) rfl ?_
     clear h a w; intro a w h
     first
          | (refine wv h (r_ldN h rfl K.u_int rfl 0 rfl rfl) rfl ?_)
          | (refine wv h (r_ldN h rfl K.u_int rfl 1 rfl rfl) rfl ?_)
          | (refine wv h (r_ldN h rfl K.u_int rfl 2 rfl rfl) rfl ?_)
          | (refine wv h (r_ldN h rfl K.u_int rfl 3 rfl rfl) rfl ?_)
          | (refine wv h (r_ldN h rfl K.u_int rfl 4 rfl rfl) rfl ?_)
          | (refine wv h (r_ldN h rfl K.u_int rfl 5 rfl rfl) rfl ?_)
          | (refine wv h (r_ldN h rfl K.u_int rfl 6 rfl rfl) rfl ?_)
          | (refine wv h (r_ldC (o := 0) h rfl K.u_int rfl 0 rfl) rfl ?_)
          | (refine wv h (r_ldC (o := 0) h rfl K.u_int rfl 1 rfl) rfl ?_)
          | (refine wv h (r_ldC (o := 0) h rfl K.u_int rfl 2 rfl) rfl ?_)
          | (refine wv h (r_ldC (o := 0) h rfl K.u_int rfl 3 rfl) rfl ?_)
          | (refine wv h (r_ldC (o := 0) h rfl K.u_int rfl 4 rfl) rfl ?_)
          | (refine wv h (r_ldC (o := 0) h rfl K.u_int rfl 5 rfl) rfl ?_)
          | (refine wv h (r_ldC (o := 0) h rfl K.u_int rfl 6 rfl) rfl ?_)
          | (refine wv h (r_load h rfl K.u_int rfl 0 rfl rfl) rfl ?_)
          | (refine wv h (r_load h rfl K.u_int rfl 1 rfl rfl) rfl ?_)
          | (refine wv h (r_load h rfl K.u_int rfl 2 rfl rfl) rfl ?_)
          | (refine wv h (r_load h rfl K.u_int rfl 3 rfl rfl) rfl ?_)
          | (refine wv h (r_load h rfl K.u_int rfl 4 rfl rfl) rfl ?_)
          | (refine wv h (r_load h rfl K.u_int rfl 5 rfl rfl) rfl ?_)
          | (refine wv h (r_load1 h rfl K.u_int rfl (by assumption)) rfl ?_)
     clear h a w; intro a w h
     refine wv h (r_fieldAddr0 h rfl K.u_api_Elem rfl K.sz_int rfl rfl) rfl ?_
     clear h a w; intro a w h
     first
          | (refine wv h (r_ldN h rfl K.u_int rfl 0 rfl rfl) rfl ?_)
          | (refine wv h (r_ldN h rfl K.u_int rfl 1 rfl rfl) rfl ?_)
          | (refine wv h (r_ldN h rfl K.u_int rfl 2 rfl rfl) rfl ?_)
          | (refine wv h (r_ldN h rfl K.u_int rfl 3 rfl rfl) rfl ?_)
          | (refine wv h (r_ldN h rfl K.u_int rfl 4 rfl rfl) rfl ?_)
          | (refine wv h (r_ldN h rfl K.u_int rfl 5 rfl rfl) rfl ?_)
          | (refine wv h (r_ldN h rfl K.u_int rfl 6 rfl rfl) rfl ?_)
          | (refine wv h (r_ldC (o := 0) h rfl K.u_int rfl 0 rfl) rfl ?_)
          | (refine wv h (r_ldC (o := 0) h rfl K.u_int rfl 1 rfl) rfl ?_)
          | (refine wv h (r_ldC (o := 0) h rfl K.u_int rfl 2 rfl) rfl ?_)
          | (refine wv h (r_ldC (o := 0) h rfl K.u_int rfl 3 rfl) rfl ?_)
          | (refine wv h (r_ldC (o := 0) h rfl K.u_int rfl 4 rfl) rfl ?_)
          | (refine wv h (r_ldC (o := 0) h rfl K.u_int rfl 5 rfl) rfl ?_)
          | (refine wv h (r_ldC (o := 0) h rfl K.u_int rfl 6 rfl) rfl ?_)
          | (refine wv h (r_load h rfl K.u_int rfl 0 rfl rfl) rfl ?_)
          | (refine wv h (r_load h rfl K.u_int rfl 1 rfl rfl) rfl ?_)
          | (refine wv h (r_load h rfl K.u_int rfl 2 rfl rfl) rfl ?_)
          | (refine wv h (r_load h rfl K.u_int rfl 3 rfl rfl) rfl ?_)
          | (refine wv h (r_load h rfl K.u_int rfl 4 rfl rfl) rfl ?_)
          | (refine wv h (r_load h rfl K.u_int rfl 5 rfl rfl) rfl ?_)
          | (refine wv h (r_load1 h rfl K.u_int rfl (by assumption)) rfl ?_)
     clear h a w; intro a w h
     refine wv h (r_bin h rfl rfl (B.neq_int)) rfl ?_
     clear h a w; intro a w h
     refine wv h (r_move h rfl) rfl ?_
     clear h a w; intro a w h
     refine wvG h (by first | exact .t rfl | exact .f rfl | exact .gt rfl | exact .gf rfl) (fun hg => by (try simp only [↓gval_on hg, ↓gval_and hg] at h); (have hg2 := hg; (try simp only [Bool.and_eq_true, Bool.or_eq_true, Bool.not_eq_true', decide_eq_true_eq, decide_eq_false_iff_not] at hg2)); first | exact r_ldA h rfl K.u_api_Elem rfl K.sz_api_Elem 0 rfl (by first | exact Row.len _ | rfl | assumption | (simp; done) | (simp; omega) | omega) | exact r_ldA h rfl K.u_api_Elem rfl K.sz_api_Elem 1 rfl (by first | exact Row.len _ | rfl | assumption | (simp; done) | (simp; omega) | omega) | exact r_ldA h rfl K.u_api_Elem rfl K.sz_api_Elem 2 rfl (by first | exact Row.len _ | rfl | assumption | (simp; done) | (simp; omega) | omega) | exact r_ldA h rfl K.u_api_Elem rfl K.sz_api_Elem 3 rfl (by first | exact Row.len _ | rfl | assumption | (simp; done) | (simp; omega) | omega) | exact r_ldA h rfl K.u_api_Elem rfl K.sz_api_Elem 4 rfl (by first | exact Row.len _ | rfl | assumption | (simp; done) | (simp; omega) | omega) | exact r_ldA h rfl K.u_api_Elem rfl K.sz_api_Elem 5 rfl (by first | exact Row.len _ | rfl | assumption | (simp; done) | (simp; omega) | omega) | exact r_loadCA h rfl K.u_api_Elem rfl K.sz_api_Elem (by assumption) (by first | rfl | assumption | (simp; done) | (simp; omega) | omega)) rfl ?_
     clear h a w; intro a w h
     refine wcG h (by first | exact .t rfl | exact .f rfl | exact .gt rfl | exact .gf rfl) K.go_rules_named (fun hg => by (try simp only [↓gval_on hg, ↓gval_and hg]); (have hg2 := hg; (try simp only [Bool.and_eq_true, Bool.or_eq_true, Bool.not_eq_true', decide_eq_true_eq, decide_eq_false_iff_not] at hg2)); exact ⟨_, rfl, rules_named s _ _ _ h.2⟩) rfl ?_
     clear h a w; intro a w h
     first
          | (refine wv h (r_pickA h rfl rfl rfl) rfl ?_)
          | (refine wv h (r_pickO h rfl rfl rfl) rfl ?_)
          | (refine wv h (r_pick_true h rfl rfl) rfl ?_)
          | (refine wv h (r_pick_false h rfl rfl) rfl ?_)
          | (refine wv h (r_pick h rfl rfl rfl) rfl ?_)
     clear h a w; intro a w h
     refine wv h (r_move h rfl) rfl ?_
     clear h a w; intro a w h
     refine wvG h (by first | exact .t rfl | exact .f rfl | exact .gt rfl | exact .gf rfl) (fun hg => by (try simp only [↓gval_on hg, ↓gval_and hg] at h); (have hg2 := hg; (try simp only [Bool.and_eq_true, Bool.or_eq_true, Bool.not_eq_true', decide_eq_true_eq, decide_eq_false_iff_not] at hg2)); first | exact r_fieldAddr h 2 rfl K.u_api_Elem rfl K.sz_int rfl rfl) rfl ?_
     clear h a w; intro a w h
     refine wvG h (by first | exact .t rfl | exact .f rfl | exact .gt rfl | exact .gf rfl) (fun hg => by (try simp only [↓gval_on hg, ↓gval_and hg] at h); (have hg2 := hg; (try simp only [Bool.and_eq_true, Bool.or_eq_true, Bool.not_eq_true', decide_eq_true_eq, decide_eq_false_iff_not] at hg2)); first | exact r_ldN h rfl K.u_int rfl 0 rfl rfl | exact r_ldN h rfl K.u_int rfl 1 rfl rfl | exact r_ldN h rfl K.u_int rfl 2 rfl rfl | exact r_ldN h rfl K.u_int rfl 3 rfl rfl | exact r_ldN h rfl K.u_int rfl 4 rfl rfl | exact r_ldN h rfl K.u_int rfl 5 rfl rfl | exact r_ldN h rfl K.u_int rfl 6 rfl rfl | exact r_ldC (o := 2) h rfl K.u_int rfl 0 rfl | exact r_ldC (o := 2) h rfl K.u_int rfl 1 rfl | exact r_ldC (o := 2) h rfl K.u_int rfl 2 rfl | exact r_ldC (o := 2) h rfl K.u_int rfl 3 rfl | exact r_ldC (o := 2) h rfl K.u_int rfl 4 rfl | exact r_ldC (o := 2) h rfl K.u_int rfl 5 rfl | exact r_ldC (o := 2) h rfl K.u_int rfl 6 rfl | exact r_load h rfl K.u_int rfl 0 rfl rfl | exact r_load h rfl K.u_int rfl 1 rfl rfl | exact r_load h rfl K.u_int rfl 2 rfl rfl | exact r_load h rfl K.u_int rfl 3 rfl rfl | exact r_load h rfl K.u_int rfl 4 rfl rfl | exact r_load h rfl K.u_int rfl 5 rfl rfl | exact r_load1 h rfl K.u_int rfl (by assumption)) rfl ?_
     clear h a w; intro a w h
     refine wvG h (by first | exact .t rfl | exact .f rfl | exact .gt rfl | exact .gf rfl) (fun hg => by (try simp only [↓gval_on hg, ↓gval_and hg] at h); (have hg2 := hg; (try simp only [Bool.and_eq_true, Bool.or_eq_true, Bool.not_eq_true', decide_eq_true_eq, decide_eq_false_iff_not] at hg2)); first | exact r_fieldAddr h 2 rfl K.u_api_Elem rfl K.sz_int rfl rfl) rfl ?_
     clear h a w; intro a w h
     refine wvG h (by first | exact .t rfl | exact .f rfl | exact .gt rfl | exact .gf rfl) (fun hg => by (try simp only [↓gval_on hg, ↓gval_and hg] at h); (have hg2 := hg; (try simp only [Bool.and_eq_true, Bool.or_eq_true, Bool.not_eq_true', decide_eq_true_eq, decide_eq_false_iff_not] at hg2)); first | exact r_ldN h rfl K.u_int rfl 0 rfl rfl | exact r_ldN h rfl K.u_int rfl 1 rfl rfl | exact r_ldN h rfl K.u_int rfl 2 rfl rfl | exact r_ldN h rfl K.u_int rfl 3 rfl rfl | exact r_ldN h rfl K.u_int rfl 4 rfl rfl | exact r_ldN h rfl K.u_int rfl 5 rfl rfl | exact r_ldN h rfl K.u_int rfl 6 rfl rfl | exact r_ldC (o := 2) h rfl K.u_int rfl 0 rfl | exact r_ldC (o := 2) h rfl K.u_int rfl 1 rfl | exact r_ldC (o := 2) h rfl K.u_int rfl 2 rfl | exact r_ldC (o := 2) h rfl K.u_int rfl 3 rfl | exact r_ldC (o := 2) h rfl K.u_int rfl 4 rfl | exact r_ldC (o := 2) h rfl K.u_int rfl 5 rfl | exact r_ldC (o := 2) h rfl K.u_int rfl 6 rfl | exact r_load h rfl K.u_int rfl 0 rfl rfl | exact r_load h rfl K.u_int rfl 1 rfl rfl | exact r_load h rfl K.u_int rfl 2 rfl rfl | exact r_load h rfl K.u_int rfl 3 rfl rfl | exact r_load h rfl K.u_int rfl 4 rfl rfl | exact r_load h rfl K.u_int rfl 5 rfl rfl | exact r_load1 h rfl K.u_int rfl (by assumption)) rfl ?_
     clear h a w; intro a w h
     refine wvG h (by first | exact .t rfl | exact .f rfl | exact .gt rfl | exact .gf rfl) (fun hg => by (try simp only [↓gval_on hg, ↓gval_and hg] at h); (have hg2 := hg; (try simp only [Bool.and_eq_true, Bool.or_eq_true, Bool.not_eq_true', decide_eq_true_eq, decide_eq_false_iff_not] at hg2)); first | exact r_bin h rfl rfl (B.eql_int)) rfl ?_
     clear h a w; intro a w h
     first
          | (refine wv h (r_pickA h rfl rfl rfl) rfl ?_)
          | (refine wv h (r_pickO h rfl rfl rfl) rfl ?_)
          | (refine wv h (r_pick_true h rfl rfl) rfl ?_)
          | (refine wv h (r_pick_false h rfl rfl) rfl ?_)
          | (refine wv h (r_pick h rfl rfl rfl) rfl ?_)
     clear h a w; intro a w h
     refine wv h (r_move h rfl) rfl ?_
     clear h a w; intro a w h
     refine wvG h (by first | exact .t rfl | exact .f rfl | exact .gt rfl | exact .gf rfl) (fun hg => by (try simp only [↓gval_on hg, ↓gval_and hg] at h); (have hg2 := hg; (try simp only [Bool.and_eq_true, Bool.or_eq_true, Bool.not_eq_true', decide_eq_true_eq, decide_eq_false_iff_not] at hg2)); first | exact r_fieldAddr h 4 rfl K.u_api_Elem rfl K.sz_string rfl rfl) rfl ?_
     clear h a w; intro a w h
     refine wvG h (by first | exact .t rfl | exact .f rfl | exact .gt rfl | exact .gf rfl) (fun hg => by (try simp only [↓gval_on hg, ↓gval_and hg] at h); (have hg2 := hg; (try simp only [Bool.and_eq_true, Bool.or_eq_true, Bool.not_eq_true', decide_eq_true_eq, decide_eq_false_iff_not] at hg2)); first | exact r_ldN h rfl K.u_string rfl 0 rfl rfl | exact r_ldN h rfl K.u_string rfl 1 rfl rfl | exact r_ldN h rfl K.u_string rfl 2 rfl rfl | exact r_ldN h rfl K.u_string rfl 3 rfl rfl | exact r_ldN h rfl K.u_string rfl 4 rfl rfl | exact r_ldN h rfl K.u_string rfl 5 rfl rfl | exact r_ldN h rfl K.u_string rfl 6 rfl rfl | exact r_ldC (o := 4) h rfl K.u_string rfl 0 rfl | exact r_ldC (o := 4) h rfl K.u_string rfl 1 rfl | exact r_ldC (o := 4) h rfl K.u_string rfl 2 rfl | exact r_ldC (o := 4) h rfl K.u_string rfl 3 rfl | exact r_ldC (o := 4) h rfl K.u_string rfl 4 rfl | exact r_ldC (o := 4) h rfl K.u_string rfl 5 rfl | exact r_ldC (o := 4) h rfl K.u_string rfl 6 rfl | exact r_load h rfl K.u_string rfl 0 rfl rfl | exact r_load h rfl K.u_string rfl 1 rfl rfl | exact r_load h rfl K.u_string rfl 2 rfl rfl | exact r_load h rfl K.u_string rfl 3 rfl rfl | exact r_load h rfl K.u_string rfl 4 rfl rfl | exact r_load h rfl K.u_string rfl 5 rfl rfl | exact r_load1 h rfl K.u_string rfl (by assumption)) rfl ?_
     clear h a w; intro a w h
     refine wvG h (by first | exact .t rfl | exact .f rfl | exact .gt rfl | exact .gf rfl) (fun hg => by (try simp only [↓gval_on hg, ↓gval_and hg] at h); (have hg2 := hg; (try simp only [Bool.and_eq_true, Bool.or_eq_true, Bool.not_eq_true', decide_eq_true_eq, decide_eq_false_iff_not] at hg2)); first | exact r_fieldAddr h 4 rfl K.u_api_Elem rfl K.sz_string rfl rfl) rfl ?_
     clear h a w; intro a w h
     refine wvG h (by first | exact .t rfl | exact .f rfl | exact .gt rfl | exact .gf rfl) (fun hg => by (try simp only [↓gval_on hg, ↓gval_and hg] at h); (have hg2 := hg; (try simp only [Bool.and_eq_true, Bool.or_eq_true, Bool.not_eq_true', decide_eq_true_eq, decide_eq_false_iff_not] at hg2)); first | exact r_ldN h rfl K.u_string rfl 0 rfl rfl | exact r_ldN h rfl K.u_string rfl 1 rfl rfl | exact r_ldN h rfl K.u_string rfl 2 rfl rfl | exact r_ldN h rfl K.u_string rfl 3 rfl rfl | exact r_ldN h rfl K.u_string rfl 4 rfl rfl | exact r_ldN h rfl K.u_string rfl 5 rfl rfl | exact r_ldN h rfl K.u_string rfl 6 rfl rfl | exact r_ldC (o := 4) h rfl K.u_string rfl 0 rfl | exact r_ldC (o := 4) h rfl K.u_string rfl 1 rfl | exact r_ldC (o := 4) h rfl K.u_string rfl 2 rfl | exact r_ldC (o := 4) h rfl K.u_string rfl 3 rfl | exact r_ldC (o := 4) h rfl K.u_string rfl 4 rfl | exact r_ldC (o := 4) h rfl K.u_string rfl 5 rfl | exact r_ldC (o := 4) h rfl K.u_string rfl 6 rfl | exact r_load h rfl K.u_string rfl 0 rfl rfl | exact r_load h rfl K.u_string rfl 1 rfl rfl | exact r_load h rfl K.u_string rfl 2 rfl rfl | exact r_load h rfl K.u_string rfl 3 rfl rfl | exact r_load h rfl K.u_string rfl 4 rfl rfl | exact r_load h rfl K.u_string rfl 5 rfl rfl | exact r_load1 h rfl K.u_string rfl (by assumption)) rfl ?_
     clear h a w; intro a w h
     refine wvG h (by first | exact .t rfl | exact .f rfl | exact .gt rfl | exact .gf rfl) (fun hg => by (try simp only [↓gval_on hg, ↓gval_and hg] at h); (have hg2 := hg; (try simp only [Bool.and_eq_true, Bool.or_eq_true, Bool.not_eq_true', decide_eq_true_eq, decide_eq_false_iff_not] at hg2)); first | exact r_streq h rfl rfl) rfl ?_
     clear h a w; intro a w h
     first
          | (refine wv h (r_pickA h rfl rfl rfl) rfl ?_)
          | (refine wv h (r_pickO h rfl rfl rfl) rfl ?_)
          | (refine wv h (r_pick_true h rfl rfl) rfl ?_)
          | (refine wv h (r_pick_false h rfl rfl) rfl ?_)
          | (refine wv h (r_pick h rfl rfl rfl) rfl ?_)
     clear h a w; intro a w h
     refine wnil (c_then ?_)
     refine c_cond h rfl (fun ht3 => ?_) (fun ht3 => ?_)
     ·
      rw [hit3_eq hn] at ht3
      as_aux_lemma =>
       refine c_seq (c_region ?_)
       refine wv h (r_assign h rfl) rfl ?_
       clear h a w; intro a w h
       refine wnil (c_then ?_)
       refine c_ret ?_
       exact ret1 h rfl rfl ⟨(), by rw [brk3, ← hx2, ht3]; rfl, h.2.drop 2, trivial⟩
     ·
      rw [hit3_eq hn] at ht3
      refine c_skip ?_
      refine b_normal ?_
      refine c_then ?_
      refine c_region ?_
      refine wv h (r_bin h rfl rfl (B.add_i64 (by omega) (by omega))) rfl ?_
      clear h a w; intro a w h
      refine wv h (r_move h rfl) rfl ?_
      clear h a w; intro a w h
      refine wnil ?_
      rw [ht3, Bool.false_or] at hx2
      exact ⟨i + 1, (h.drop 1).keep [3, 10, 11, 12], ⟨by omega, hx2⟩, by show l.length - (i + 1) < l.length - i; omega⟩
    ·
     obtain rfl : i = l.length := by omega
     rw [List.drop_length, List.any_nil] at hx2
     refine c_exit ?_
     refine e_then ?_
     refine e_then ?_
     refine e_here ?_
     refine c_then ?_
     refine c_seq (c_region ?_)
     refine wv h (r_fieldAddr h 4 rfl K.u_api_Elem rfl K.sz_string rfl rfl) rfl ?_
     clear h a w; intro a w h
     first
          | (refine wv h (r_ldN h rfl K.u_string rfl 0 rfl rfl) rfl ?_)
          | (refine wv h (r_ldN h rfl K.u_string rfl 1 rfl rfl) rfl ?_)
          | (refine wv h (r_ldN h rfl K.u_string rfl 2 rfl rfl) rfl ?_)
          | (refine wv h (r_ldN h rfl K.u_string rfl 3 rfl rfl) rfl ?_)
          | (refine wv h (r_ldN h rfl K.u_string rfl 4 rfl rfl) rfl ?_)
          | (refine wv h (r_ldN h rfl K.u_string rfl 5 rfl rfl) rfl ?_)
          | (refine wv h (r_ldN h rfl K.u_string rfl 6 rfl rfl) rfl ?_)
          | (refine wv h (r_ldC (o := 4) h rfl K.u_string rfl 0 rfl) rfl ?_)
          | (refine wv h (r_ldC (o := 4) h rfl K.u_string rfl 1 rfl) rfl ?_)
          | (refine wv h (r_ldC (o := 4) h rfl K.u_string rfl 2 rfl) rfl ?_)
          | (refine wv h (r_ldC (o := 4) h rfl K.u_string rfl 3 rfl) rfl ?_)
          | (refine wv h (r_ldC (o := 4) h rfl K.u_string rfl 4 rfl) rfl ?_)
          | (refine wv h (r_ldC (o := 4) h rfl K.u_string rfl 5 rfl) rfl ?_)
          | (refine wv h (r_ldC (o := 4) h rfl K.u_string rfl 6 rfl) rfl ?_)
          | (refine wv h (r_load h rfl K.u_string rfl 0 rfl rfl) rfl ?_)
          | (refine wv h (r_load h rfl K.u_string rfl 1 rfl rfl) rfl ?_)
          | (refine wv h (r_load h rfl K.u_string rfl 2 rfl rfl) rfl ?_)
          | (refine wv h (r_load h rfl K.u_string rfl 3 rfl rfl) rfl ?_)
          | (refine wv h (r_load h rfl K.u_string rfl 4 rfl rfl) rfl ?_)
          | (refine wv h (r_load h rfl K.u_string rfl 5 rfl rfl) rfl ?_)
          | (refine wv h (r_load1 h rfl K.u_string rfl (by assumption)) rfl ?_)
     clear h a w; intro a w h
     refine wv h (r_streq h rfl rfl) rfl ?_
     clear h a w; intro a w h
     refine wv h (r_assign h rfl) rfl ?_
     clear h a w; intro a w h
     refine wnil (c_then ?_)
     refine c_ret ?_
     exact ret1 h rfl rfl ⟨(), by rw [brk3, ← hx2, hn]; rfl, h.2.drop 1, trivial⟩

theorem rules_parents (s w : World) (v : Value) (l : List El) (e : El) (F : List HItem) (hr : Rises l) (hl : l.length ≤ 1000) (hv : Views F 10 v l.length (l.flatMap cellsE)) (hs : Sat s w F) :
    Calls P n_rules_parents #[v, .agg ⟨cellsE e⟩] w (Ret s (fun _ : Unit => .bool (brk4 l e)) (fun _ => F) (fun _ => True)) := by
  refine enter K.fn_rules_parents rfl K.nt_rules_parents rfl hs ?_
  clear hs w; intro a w h
  refine c_seq (c_region ?_)
  refine wl rfl (op_box h rfl rfl ?_)
  clear h a w; intro b3 a w h
  try simp only [Value.cells] at h
  refine wv h (r_assign h rfl) rfl ?_
  clear h a w; intro a w h
  refine wnil (c_then ?_)
  refine c_seq ?_
  refine c_seq (c_region ?_)
  refine wv h (r_fieldAddr h 2 rfl K.u_api_Elem rfl K.sz_int rfl rfl) rfl ?_
  clear h a w; intro a w h
  first
    | (refine wv h (r_ldN h rfl K.u_int rfl 0 rfl rfl) rfl ?_)
    | (refine wv h (r_ldN h rfl K.u_int rfl 1 rfl rfl) rfl ?_)
    | (refine wv h (r_ldN h rfl K.u_int rfl 2 rfl rfl) rfl ?_)
    | (refine wv h (r_ldN h rfl K.u_int rfl 3 rfl rfl) rfl ?_)
    | (refine wv h (r_ldN h rfl K.u_int rfl 4 rfl rfl) rfl ?_)
    | (refine wv h (r_ldN h rfl K.u_int rfl 5 rfl rfl) rfl ?_)
    | (refine wv h (r_ldN h rfl K.u_int rfl 6 rfl rfl) rfl ?_)
    | (refine wv h (r_ldC (o := 2) h rfl K.u_int rfl 0 rfl) rfl ?_)
    | (refine wv h (r_ldC (o := 2) h rfl K.u_int rfl 1 rfl) rfl ?_)
    | (refine wv h (r_ldC (o := 2) h rfl K.u_int rfl 2 rfl) rfl ?_)
    | (refine wv h (r_ldC (o := 2) h rfl K.u_int rfl 3 rfl) rfl ?_)
    | (refine wv h (r_ldC (o := 2) h rfl K.u_int rfl 4 rfl) rfl ?_)
    | (refine wv h (r_ldC (o := 2) h rfl K.u_int rfl 5 rfl) rfl ?_)
    | (refine wv h (r_ldC (o := 2) h rfl K.u_int rfl 6 rfl) rfl ?_)
    | (refine wv h (r_load h rfl K.u_int rfl 0 rfl rfl) rfl ?_)
    | (refine wv h (r_load h rfl K.u_int rfl 1 rfl rfl) rfl ?_)
    | (refine wv h (r_load h rfl K.u_int rfl 2 rfl rfl) rfl ?_)
    | (refine wv h (r_load h rfl K.u_int rfl 3 rfl rfl) rfl ?_)
    | (refine wv h (r_load h rfl K.u_int rfl 4 rfl rfl) rfl ?_)
    | (refine wv h (r_load h rfl K.u_int rfl 5 rfl rfl) rfl ?_)
    | (refine wv h (r_load1 h rfl K.u_int rfl (by assumption)) rfl ?_)
  clear h a w; intro a w h
  refine wv h (r_bin h rfl rfl (B.eql_int)) rfl ?_
  clear h a w; intro a w h
  refine wnil (c_then ?_)
  first
   | refine c_condD h rfl (fun ht1 => ?_) (fun ht1 => ?_)
   | refine c_condP h rfl (by first | (simp only [Bool.and_eq_true, Bool.or_eq_true, Bool.not_eq_true', decide_eq_true_eq, decide_eq_false_iff_not, ne_eq, Bool.not_eq_eq_eq_not, Bool.not_true, beq_iff_eq, bne_iff_ne]; exact Iff.rfl) | exact Iff.rfl) (fun ht1 => ?_) (fun ht1 => ?_)
  ·
   have hb : brk4 l e = decide (e.kind = 2) := by
     unfold brk4; split
     · rename_i q; simp [ht1, q]
     · rename_i q; simp [ht1, q]
   as_aux_lemma =>
    refine c_seq (c_region ?_)
    refine wv h (r_fieldAddr h 1 rfl K.u_api_Elem rfl K.sz_uint8 rfl rfl) rfl ?_
    clear h a w; intro a w h
    first
        | (refine wv h (r_ldN h rfl K.u_uint8 rfl 0 rfl rfl) rfl ?_)
        | (refine wv h (r_ldN h rfl K.u_uint8 rfl 1 rfl rfl) rfl ?_)
        | (refine wv h (r_ldN h rfl K.u_uint8 rfl 2 rfl rfl) rfl ?_)
        | (refine wv h (r_ldN h rfl K.u_uint8 rfl 3 rfl rfl) rfl ?_)
        | (refine wv h (r_ldN h rfl K.u_uint8 rfl 4 rfl rfl) rfl ?_)
        | (refine wv h (r_ldN h rfl K.u_uint8 rfl 5 rfl rfl) rfl ?_)
        | (refine wv h (r_ldN h rfl K.u_uint8 rfl 6 rfl rfl) rfl ?_)
        | (refine wv h (r_ldC (o := 1) h rfl K.u_uint8 rfl 0 rfl) rfl ?_)
        | (refine wv h (r_ldC (o := 1) h rfl K.u_uint8 rfl 1 rfl) rfl ?_)
        | (refine wv h (r_ldC (o := 1) h rfl K.u_uint8 rfl 2 rfl) rfl ?_)
        | (refine wv h (r_ldC (o := 1) h rfl K.u_uint8 rfl 3 rfl) rfl ?_)
        | (refine wv h (r_ldC (o := 1) h rfl K.u_uint8 rfl 4 rfl) rfl ?_)
        | (refine wv h (r_ldC (o := 1) h rfl K.u_uint8 rfl 5 rfl) rfl ?_)
        | (refine wv h (r_ldC (o := 1) h rfl K.u_uint8 rfl 6 rfl) rfl ?_)
        | (refine wv h (r_load h rfl K.u_uint8 rfl 0 rfl rfl) rfl ?_)
        | (refine wv h (r_load h rfl K.u_uint8 rfl 1 rfl rfl) rfl ?_)
        | (refine wv h (r_load h rfl K.u_uint8 rfl 2 rfl rfl) rfl ?_)
        | (refine wv h (r_load h rfl K.u_uint8 rfl 3 rfl rfl) rfl ?_)
        | (refine wv h (r_load h rfl K.u_uint8 rfl 4 rfl rfl) rfl ?_)
        | (refine wv h (r_load h rfl K.u_uint8 rfl 5 rfl rfl) rfl ?_)
        | (refine wv h (r_load1 h rfl K.u_uint8 rfl (by assumption)) rfl ?_)
    clear h a w; intro a w h
    refine wv h (r_bin h rfl rfl (B.eql_u8 (y := 2))) rfl ?_
    clear h a w; intro a w h
    refine wv h (r_assign h rfl) rfl ?_
    clear h a w; intro a w h
    refine wnil (c_then ?_)
    refine c_ret ?_
    exact ret1 h rfl rfl ⟨(), by rw [hb], h.2.drop 1, trivial⟩
  ·
   refine c_skip ?_
   refine c_then ?_
   refine c_seq (c_region ?_)
   refine wv h (r_move h rfl) rfl ?_
   clear h a w; intro a w h
   refine wv h (r_fieldAddr h 2 rfl K.u_api_Elem rfl K.sz_int rfl rfl) rfl ?_
   clear h a w; intro a w h
   first
      | (refine wv h (r_ldN h rfl K.u_int rfl 0 rfl rfl) rfl ?_)
      | (refine wv h (r_ldN h rfl K.u_int rfl 1 rfl rfl) rfl ?_)
      | (refine wv h (r_ldN h rfl K.u_int rfl 2 rfl rfl) rfl ?_)
      | (refine wv h (r_ldN h rfl K.u_int rfl 3 rfl rfl) rfl ?_)
      | (refine wv h (r_ldN h rfl K.u_int rfl 4 rfl rfl) rfl ?_)
      | (refine wv h (r_ldN h rfl K.u_int rfl 5 rfl rfl) rfl ?_)
      | (refine wv h (r_ldN h rfl K.u_int rfl 6 rfl rfl) rfl ?_)
      | (refine wv h (r_ldC (o := 2) h rfl K.u_int rfl 0 rfl) rfl ?_)
      | (refine wv h (r_ldC (o := 2) h rfl K.u_int rfl 1 rfl) rfl ?_)
      | (refine wv h (r_ldC (o := 2) h rfl K.u_int rfl 2 rfl) rfl ?_)
      | (refine wv h (r_ldC (o := 2) h rfl K.u_int rfl 3 rfl) rfl ?_)
      | (refine wv h (r_ldC (o := 2) h rfl K.u_int rfl 4 rfl) rfl ?_)
      | (refine wv h (r_ldC (o := 2) h rfl K.u_int rfl 5 rfl) rfl ?_)
      | (refine wv h (r_ldC (o := 2) h rfl K.u_int rfl 6 rfl) rfl ?_)
      | (refine wv h (r_load h rfl K.u_int rfl 0 rfl rfl) rfl ?_)
      | (refine wv h (r_load h rfl K.u_int rfl 1 rfl rfl) rfl ?_)
      | (refine wv h (r_load h rfl K.u_int rfl 2 rfl rfl) rfl ?_)
      | (refine wv h (r_load h rfl K.u_int rfl 3 rfl rfl) rfl ?_)
      | (refine wv h (r_load h rfl K.u_int rfl 4 rfl rfl) rfl ?_)
      | (refine wv h (r_load h rfl K.u_int rfl 5 rfl rfl) rfl ?_)
      | (refine wv h (r_load1 h rfl K.u_int rfl (by assumption)) rfl ?_)
   clear h a w; intro a w h
   refine wl rfl (op_call h rfl K.go_chart_Find (chart_Find s _ v l e.parent _ hr hl (by first | exact Views.own 0 rfl | exact Views.own 1 rfl | exact Views.own 2 rfl | exact Views.own 3 rfl | exact Views.own 4 rfl | exact Views.own 5 rfl | assumption | exact Views.of_drop 1 (by assumption) | exact Views.of_drop 2 (by assumption) | exact Views.of_drop 3 (by assumption) | exact Views.of_drop 4 (by assumption) | exact Views.of_drop 5 (by assumption) | exact Views.of_drop 6 (by assumption) | exact Views.of_drop 7 (by assumption) | exact Views.of_drop 8 (by assumption) | exact Views.of_drop 9 (by assumption) | exact Views.of_drop 10 (by assumption) | exact Views.of_drop 11 (by assumption) | exact Views.of_drop 12 (by assumption)) h.2) rfl ?_)
   clear h a w; intro x a w hx h
   (try simp only [List.set_cons_zero, List.set_cons_succ] at h)
   refine wv h (r_move h rfl) rfl ?_
   clear h a w; intro a w h
   refine wv h (r_extractN h rfl rfl) rfl ?_
   clear h a w; intro a w h
   refine wv h (r_extractN h rfl rfl) rfl ?_
   clear h a w; intro a w h
   refine wl rfl (op_alloc h K.z_api_Elem rfl ?_)
   clear h a w; intro b5 a w h
   first
      | (refine wl rfl (op_stA h rfl rfl K.sz_api_Elem (by first | exact Row.len _ | rfl | assumption | (simp; done) | (simp; omega) | omega) (by first | exact Row.one _ | exact bs_one _ | assumption | (simp; done) | (simp; (repeat' apply And.intro) <;> first | rfl | assumption)) 0 rfl (by first | rfl | assumption | (simp; done) | (simp; omega) | omega) ?_))
      | (refine wl rfl (op_stA h rfl rfl K.sz_api_Elem (by first | exact Row.len _ | rfl | assumption | (simp; done) | (simp; omega) | omega) (by first | exact Row.one _ | exact bs_one _ | assumption | (simp; done) | (simp; (repeat' apply And.intro) <;> first | rfl | assumption)) 1 rfl (by first | rfl | assumption | (simp; done) | (simp; omega) | omega) ?_))
      | (refine wl rfl (op_stA h rfl rfl K.sz_api_Elem (by first | exact Row.len _ | rfl | assumption | (simp; done) | (simp; omega) | omega) (by first | exact Row.one _ | exact bs_one _ | assumption | (simp; done) | (simp; (repeat' apply And.intro) <;> first | rfl | assumption)) 2 rfl (by first | rfl | assumption | (simp; done) | (simp; omega) | omega) ?_))
      | (refine wl rfl (op_stA h rfl rfl K.sz_api_Elem (by first | exact Row.len _ | rfl | assumption | (simp; done) | (simp; omega) | omega) (by first | exact Row.one _ | exact bs_one _ | assumption | (simp; done) | (simp; (repeat' apply And.intro) <;> first | rfl | assumption)) 3 rfl (by first | rfl | assumption | (simp; done) | (simp; omega) | omega) ?_))
      | (refine wl rfl (op_stA h rfl rfl K.sz_api_Elem (by first | exact Row.len _ | rfl | assumption | (simp; done) | (simp; omega) | omega) (by first | exact Row.one _ | exact bs_one _ | assumption | (simp; done) | (simp; (repeat' apply And.intro) <;> first | rfl | assumption)) 4 rfl (by first | rfl | assumption | (simp; done) | (simp; omega) | omega) ?_))
      | (refine wl rfl (op_stA h rfl rfl K.sz_api_Elem (by first | exact Row.len _ | rfl | assumption | (simp; done) | (simp; omega) | omega) (by first | exact Row.one _ | exact bs_one _ | assumption | (simp; done) | (simp; (repeat' apply And.intro) <;> first | rfl | assumption)) 5 rfl (by first | rfl | assumption | (simp; done) | (simp; omega) | omega) ?_))
   clear h a w; intro a w h
   (try simp only [List.set_cons_zero, List.set_cons_succ] at h)
   refine wv h (r_assign h rfl) rfl ?_
   clear h a w; intro a w h
   refine wnil (c_then ?_)
   refine c_seq ?_
   refine c_seq (c_region ?_)
   refine wv h (r_fieldAddr h 1 rfl K.u_api_Elem rfl K.sz_uint8 rfl rfl) rfl ?_
   clear h a w; intro a w h
   first
      | (refine wv h (r_ldN h rfl K.u_uint8 rfl 0 rfl rfl) rfl ?_)
      | (refine wv h (r_ldN h rfl K.u_uint8 rfl 1 rfl rfl) rfl ?_)
      | (refine wv h (r_ldN h rfl K.u_uint8 rfl 2 rfl rfl) rfl ?_)
      | (refine wv h (r_ldN h rfl K.u_uint8 rfl 3 rfl rfl) rfl ?_)
      | (refine wv h (r_ldN h rfl K.u_uint8 rfl 4 rfl rfl) rfl ?_)
      | (refine wv h (r_ldN h rfl K.u_uint8 rfl 5 rfl rfl) rfl ?_)
      | (refine wv h (r_ldN h rfl K.u_uint8 rfl 6 rfl rfl) rfl ?_)
      | (refine wv h (r_ldC (o := 1) h rfl K.u_uint8 rfl 0 rfl) rfl ?_)
      | (refine wv h (r_ldC (o := 1) h rfl K.u_uint8 rfl 1 rfl) rfl ?_)
      | (refine wv h (r_ldC (o := 1) h rfl K.u_uint8 rfl 2 rfl) rfl ?_)
      | (refine wv h (r_ldC (o := 1) h rfl K.u_uint8 rfl 3 rfl) rfl ?_)
      | (refine wv h (r_ldC (o := 1) h rfl K.u_uint8 rfl 4 rfl) rfl ?_)
      | (refine wv h (r_ldC (o := 1) h rfl K.u_uint8 rfl 5 rfl) rfl ?_)
      | (refine wv h (r_ldC (o := 1) h rfl K.u_uint8 rfl 6 rfl) rfl ?_)
      | (refine wv h (r_load h rfl K.u_uint8 rfl 0 rfl rfl) rfl ?_)
      | (refine wv h (r_load h rfl K.u_uint8 rfl 1 rfl rfl) rfl ?_)
      | (refine wv h (r_load h rfl K.u_uint8 rfl 2 rfl rfl) rfl ?_)
      | (refine wv h (r_load h rfl K.u_uint8 rfl 3 rfl rfl) rfl ?_)
      | (refine wv h (r_load h rfl K.u_uint8 rfl 4 rfl rfl) rfl ?_)
      | (refine wv h (r_load h rfl K.u_uint8 rfl 5 rfl rfl) rfl ?_)
      | (refine wv h (r_load1 h rfl K.u_uint8 rfl (by assumption)) rfl ?_)
   clear h a w; intro a w h
   refine wv h (r_bin h rfl rfl (B.eql_u8 (y := 2))) rfl ?_
   clear h a w; intro a w h
   refine wnil (c_then ?_)
   first
    | refine c_condD h rfl (fun ht2 => ?_) (fun ht2 => ?_)
    | refine c_condP h rfl (by first | (simp only [Bool.and_eq_true, Bool.or_eq_true, Bool.not_eq_true', decide_eq_true_eq, decide_eq_false_iff_not, ne_eq, Bool.not_eq_eq_eq_not, Bool.not_true, beq_iff_eq, bne_iff_ne]; exact Iff.rfl) | exact Iff.rfl) (fun ht2 => ?_) (fun ht2 => ?_)
   ·
    have hb : brk4 l e = (!(findE l e.parent).isSome || decide ((findD l e.parent).kind ≠ 1)) := by
      rw [brk4, if_pos ht2, kindE, findD]
      cases findE l e.parent <;> simp [ht1]
    as_aux_lemma =>
     refine c_seq (c_region ?_)
     refine wv h (r_move h rfl) rfl ?_
     clear h a w; intro a w h
     refine wv h (r_not h rfl) rfl ?_
     clear h a w; intro a w h
     refine wv h (r_move h rfl) rfl ?_
     clear h a w; intro a w h
     refine wvG h (by first | exact .t rfl | exact .f rfl | exact .gt rfl | exact .gf rfl) (fun hg => by (try simp only [↓gval_on hg, ↓gval_and hg] at h); (have hg2 := hg; (try simp only [Bool.and_eq_true, Bool.or_eq_true, Bool.not_eq_true', decide_eq_true_eq, decide_eq_false_iff_not] at hg2)); first | exact r_fieldAddr h 1 rfl K.u_api_Elem rfl K.sz_uint8 rfl rfl) rfl ?_
     clear h a w; intro a w h
     refine wvG h (by first | exact .t rfl | exact .f rfl | exact .gt rfl | exact .gf rfl) (fun hg => by (try simp only [↓gval_on hg, ↓gval_and hg] at h); (have hg2 := hg; (try simp only [Bool.and_eq_true, Bool.or_eq_true, Bool.not_eq_true', decide_eq_true_eq, decide_eq_false_iff_not] at hg2)); first | exact r_ldN h rfl K.u_uint8 rfl 0 rfl rfl | exact r_ldN h rfl K.u_uint8 rfl 1 rfl rfl | exact r_ldN h rfl K.u_uint8 rfl 2 rfl rfl | exact r_ldN h rfl K.u_uint8 rfl 3 rfl rfl | exact r_ldN h rfl K.u_uint8 rfl 4 rfl rfl | exact r_ldN h rfl K.u_uint8 rfl 5 rfl rfl | exact r_ldN h rfl K.u_uint8 rfl 6 rfl rfl | exact r_ldC (o := 1) h rfl K.u_uint8 rfl 0 rfl | exact r_ldC (o := 1) h rfl K.u_uint8 rfl 1 rfl | exact r_ldC (o := 1) h rfl K.u_uint8 rfl 2 rfl | exact r_ldC (o := 1) h rfl K.u_uint8 rfl 3 rfl | exact r_ldC (o := 1) h rfl K.u_uint8 rfl 4 rfl | exact r_ldC (o := 1) h rfl K.u_uint8 rfl 5 rfl | exact r_ldC (o := 1) h rfl K.u_uint8 rfl 6 rfl | exact r_load h rfl K.u_uint8 rfl 0 rfl rfl | exact r_load h rfl K.u_uint8 rfl 1 rfl rfl | exact r_load h rfl K.u_uint8 rfl 2 rfl rfl | exact r_load h rfl K.u_uint8 rfl 3 rfl rfl | exact r_load h rfl K.u_uint8 rfl 4 rfl rfl | exact r_load h rfl K.u_uint8 rfl 5 rfl rfl | exact r_load1 h rfl K.u_uint8 rfl (by assumption)) rfl ?_
     clear h a w; intro a w h
     refine wvG h (by first | exact .t rfl | exact .f rfl | exact .gt rfl | exact .gf rfl) (fun hg => by (try simp only [↓gval_on hg, ↓gval_and hg] at h); (have hg2 := hg; (try simp only [Bool.and_eq_true, Bool.or_eq_true, Bool.not_eq_true', decide_eq_true_eq, decide_eq_false_iff_not] at hg2)); first | exact r_bin h rfl rfl (B.neq_u8 (y := 1))) rfl ?_
     clear h a w; intro a w h
     first
          | (refine wv h (r_pickA h rfl rfl rfl) rfl ?_)
          | (refine wv h (r_pickO h rfl rfl rfl) rfl ?_)
          | (refine wv h (r_pick_true h rfl rfl) rfl ?_)
          | (refine wv h (r_pick_false h rfl rfl) rfl ?_)
          | (refine wv h (r_pick h rfl rfl rfl) rfl ?_)
     clear h a w; intro a w h
     refine wv h (r_assign h rfl) rfl ?_
     clear h a w; intro a w h
     refine wnil (c_then ?_)
     refine c_ret ?_
     exact ret1 h rfl rfl ⟨(), by rw [hb], h.2.drop 2, trivial⟩
   ·
    have hb : brk4 l e = (!(findE l e.parent).isSome || !namedE (findD l e.parent)) := by
      rw [brk4, if_neg ht2, kindE, findD]
      cases findE l e.parent <;> simp [ht1, namedE]
    refine c_skip ?_
    refine c_then ?_
    refine c_seq (c_region ?_)
    refine wv h (r_move h rfl) rfl ?_
    clear h a w; intro a w h
    refine wv h (r_not h rfl) rfl ?_
    clear h a w; intro a w h
    refine wv h (r_move h rfl) rfl ?_
    clear h a w; intro a w h
    refine wvG h (by first | exact .t rfl | exact .f rfl | exact .gt rfl | exact .gf rfl) (fun hg => by (try simp only [↓gval_on hg, ↓gval_and hg] at h); (have hg2 := hg; (try simp only [Bool.and_eq_true, Bool.or_eq_true, Bool.not_eq_true', decide_eq_true_eq, decide_eq_false_iff_not] at hg2)); first | exact r_ldA h rfl K.u_api_Elem rfl K.sz_api_Elem 0 rfl (by first | exact Row.len _ | rfl | assumption | (simp; done) | (simp; omega) | omega) | exact r_ldA h rfl K.u_api_Elem rfl K.sz_api_Elem 1 rfl (by first | exact Row.len _ | rfl | assumption | (simp; done) | (simp; omega) | omega) | exact r_ldA h rfl K.u_api_Elem rfl K.sz_api_Elem 2 rfl (by first | exact Row.len _ | rfl | assumption | (simp; done) | (simp; omega) | omega) | exact r_ldA h rfl K.u_api_Elem rfl K.sz_api_Elem 3 rfl (by first | exact Row.len _ | rfl | assumption | (simp; done) | (simp; omega) | omega) | exact r_ldA h rfl K.u_api_Elem rfl K.sz_api_Elem 4 rfl (by first | exact Row.len _ | rfl | assumption | (simp; done) | (simp; omega) | omega) | exact r_ldA h rfl K.u_api_Elem rfl K.sz_api_Elem 5 rfl (by first | exact Row.len _ | rfl | assumption | (simp; done) | (simp; omega) | omega) | exact r_loadCA h rfl K.u_api_Elem rfl K.sz_api_Elem (by assumption) (by first | rfl | assumption | (simp; done) | (simp; omega) | omega)) rfl ?_
    clear h a w; intro a w h
    refine wcG h (by first | exact .t rfl | exact .f rfl | exact .gt rfl | exact .gf rfl) K.go_rules_named (fun hg => by (try simp only [↓gval_on hg, ↓gval_and hg]); (have hg2 := hg; (try simp only [Bool.and_eq_true, Bool.or_eq_true, Bool.not_eq_true', decide_eq_true_eq, decide_eq_false_iff_not] at hg2)); exact ⟨_, rfl, rules_named s _ _ _ h.2⟩) rfl ?_
    clear h a w; intro a w h
    refine wvG h (by first | exact .t rfl | exact .f rfl | exact .gt rfl | exact .gf rfl) (fun hg => by (try simp only [↓gval_on hg, ↓gval_and hg] at h); (have hg2 := hg; (try simp only [Bool.and_eq_true, Bool.or_eq_true, Bool.not_eq_true', decide_eq_true_eq, decide_eq_false_iff_not] at hg2)); first | exact r_not h rfl) rfl ?_
    clear h a w; intro a w h
    first
        | (refine wv h (r_pickA h rfl rfl rfl) rfl ?_)
        | (refine wv h (r_pickO h rfl rfl rfl) rfl ?_)
        | (refine wv h (r_pick_true h rfl rfl) rfl ?_)
        | (refine wv h (r_pick_false h rfl rfl) rfl ?_)
        | (refine wv h (r_pick h rfl rfl rfl) rfl ?_)
    clear h a w; intro a w h
    refine wv h (r_assign h rfl) rfl ?_
    clear h a w; intro a w h
    refine wnil (c_then ?_)
    refine c_ret ?_
    exact ret1 h rfl rfl ⟨(), by rw [hb], h.2.drop 2, trivial⟩

theorem rules_rings (s w : World) (v : Value) (l : List El) (e : El) (F : List HItem) (hr : Rises l) (hl : l.length ≤ 1000) (hv : Views F 10 v l.length (l.flatMap cellsE)) (hs : Sat s w F) :
    Calls P n_rules_rings #[v, .agg ⟨cellsE e⟩] w (Ret s (fun _ : Unit => .bool (brk5 l e)) (fun _ => F) (fun _ => True)) := by
  refine enter K.fn_rules_rings rfl K.nt_rules_rings rfl hs ?_
  clear hs w; intro a w h
  refine c_seq (c_region ?_)
  refine wl rfl (op_box h rfl rfl ?_)
  clear h a w; intro b3 a w h
  try simp only [Value.cells] at h
  refine wv h (r_assign h rfl) rfl ?_
  clear h a w; intro a w h
  refine wnil (c_then ?_)
  refine c_seq (c_region ?_)
  refine wv h (r_fieldAddr h 2 rfl K.u_api_Elem rfl K.sz_int rfl rfl) rfl ?_
  clear h a w; intro a w h
  first
    | (refine wv h (r_ldN h rfl K.u_int rfl 0 rfl rfl) rfl ?_)
    | (refine wv h (r_ldN h rfl K.u_int rfl 1 rfl rfl) rfl ?_)
    | (refine wv h (r_ldN h rfl K.u_int rfl 2 rfl rfl) rfl ?_)
    | (refine wv h (r_ldN h rfl K.u_int rfl 3 rfl rfl) rfl ?_)
    | (refine wv h (r_ldN h rfl K.u_int rfl 4 rfl rfl) rfl ?_)
    | (refine wv h (r_ldN h rfl K.u_int rfl 5 rfl rfl) rfl ?_)
    | (refine wv h (r_ldN h rfl K.u_int rfl 6 rfl rfl) rfl ?_)
    | (refine wv h (r_ldC (o := 2) h rfl K.u_int rfl 0 rfl) rfl ?_)
    | (refine wv h (r_ldC (o := 2) h rfl K.u_int rfl 1 rfl) rfl ?_)
    | (refine wv h (r_ldC (o := 2) h rfl K.u_int rfl 2 rfl) rfl ?_)
    | (refine wv h (r_ldC (o := 2) h rfl K.u_int rfl 3 rfl) rfl ?_)
    | (refine wv h (r_ldC (o := 2) h rfl K.u_int rfl 4 rfl) rfl ?_)
    | (refine wv h (r_ldC (o := 2) h rfl K.u_int rfl 5 rfl) rfl ?_)
    | (refine wv h (r_ldC (o := 2) h rfl K.u_int rfl 6 rfl) rfl ?_)
    | (refine wv h (r_load h rfl K.u_int rfl 0 rfl rfl) rfl ?_)
    | (refine wv h (r_load h rfl K.u_int rfl 1 rfl rfl) rfl ?_)
    | (refine wv h (r_load h rfl K.u_int rfl 2 rfl rfl) rfl ?_)
    | (refine wv h (r_load h rfl K.u_int rfl 3 rfl rfl) rfl ?_)
    | (refine wv h (r_load h rfl K.u_int rfl 4 rfl rfl) rfl ?_)
    | (refine wv h (r_load h rfl K.u_int rfl 5 rfl rfl) rfl ?_)
    | (refine wv h (r_load1 h rfl K.u_int rfl (by assumption)) rfl ?_)
  clear h a w; intro a w h
  refine wv h (r_assign h rfl) rfl ?_
  clear h a w; intro a w h
  refine wnil (c_then ?_)
  refine c_seq ?_
  refine c_seq (c_region ?_)
  refine wv h (r_move h rfl) rfl ?_
  clear h a w; intro a w h
  refine wv h (r_lenV h rfl K.u_api_Chart (by first | exact Views.own 0 rfl | exact Views.own 1 rfl | exact Views.own 2 rfl | exact Views.own 3 rfl | exact Views.own 4 rfl | exact Views.own 5 rfl | assumption | exact Views.of_drop 1 (by assumption) | exact Views.of_drop 2 (by assumption) | exact Views.of_drop 3 (by assumption) | exact Views.of_drop 4 (by assumption) | exact Views.of_drop 5 (by assumption) | exact Views.of_drop 6 (by assumption) | exact Views.of_drop 7 (by assumption) | exact Views.of_drop 8 (by assumption) | exact Views.of_drop 9 (by assumption) | exact Views.of_drop 10 (by assumption) | exact Views.of_drop 11 (by assumption) | exact Views.of_drop 12 (by assumption))) rfl ?_
  clear h a w; intro a w h
  refine wv h (r_move h rfl) rfl ?_
  clear h a w; intro a w h
  refine wnil (c_then ?_)
  refine c_block ?_
  refine c_loopX h (X := Nat × Int) (fun x => [(0, v), (3, .pointer (some ⟨b3, 0, none⟩)), (5, .int .i64 x.2), (11, .int .i64 (l.length : Int)), (12, .int .i64 (x.1 : Int))]) (fun _ => Blk b3 (.cells ⟨cellsE e⟩ t_api_Elem) :: F) (fun x => x.1 ≤ l.length ∧ ringE l e.id (l.length - x.1) x.2 = ringE l e.id l.length e.parent) (fun x => l.length - x.1) (0, e.parent) (h.keep [0, 3, 5, 11, 12]) ⟨Nat.zero_le _, rfl⟩ ?_
  clear h a w; intro x a w hx h
  obtain ⟨i, at_⟩ := x
  obtain ⟨hx1, hx2⟩ := hx
  dsimp only at hx1 hx2 h
  as_aux_lemma =>
   refine c_seq (c_region ?_)
   refine wv h (r_bin h rfl rfl (B.lss_int)) rfl ?_
   clear h a w; intro a w h
   refine wnil (c_then ?_)
   refine c_seq ?_
   first
    | refine c_condD h rfl (fun ht1 => ?_) (fun ht1 => ?_)
    | refine c_condP h rfl (by first | (simp only [Bool.and_eq_true, Bool.or_eq_true, Bool.not_eq_true', decide_eq_true_eq, decide_eq_false_iff_not, ne_eq, Bool.not_eq_eq_eq_not, Bool.not_true, beq_iff_eq, bne_iff_ne]; exact Iff.rfl) | exact Iff.rfl) (fun ht1 => ?_) (fun ht1 => ?_)
   ·
    rw [show l.length - i = (l.length - (i + 1)) + 1 by omega, ringE] at hx2
    refine c_skip ?_
    refine c_then ?_
    refine c_seq ?_
    refine c_block ?_
    refine c_seq ?_
    refine c_seq (c_region ?_)
    refine wv h (r_move h rfl) rfl ?_
    clear h a w; intro a w h
    refine wv h (r_fieldAddr0 h rfl K.u_api_Elem rfl K.sz_int rfl rfl) rfl ?_
    clear h a w; intro a w h
    first
        | (refine wv h (r_ldN h rfl K.u_int rfl 0 rfl rfl) rfl ?_)
        | (refine wv h (r_ldN h rfl K.u_int rfl 1 rfl rfl) rfl ?_)
        | (refine wv h (r_ldN h rfl K.u_int rfl 2 rfl rfl) rfl ?_)
        | (refine wv h (r_ldN h rfl K.u_int rfl 3 rfl rfl) rfl ?_)
        | (refine wv h (r_ldN h rfl K.u_int rfl 4 rfl rfl) rfl ?_)
        | (refine wv h (r_ldN h rfl K.u_int rfl 5 rfl rfl) rfl ?_)
        | (refine wv h (r_ldN h rfl K.u_int rfl 6 rfl rfl) rfl ?_)
        | (refine wv h (r_ldC (o := 0) h rfl K.u_int rfl 0 rfl) rfl ?_)
        | (refine wv h (r_ldC (o := 0) h rfl K.u_int rfl 1 rfl) rfl ?_)
        | (refine wv h (r_ldC (o := 0) h rfl K.u_int rfl 2 rfl) rfl ?_)
        | (refine wv h (r_ldC (o := 0) h rfl K.u_int rfl 3 rfl) rfl ?_)
        | (refine wv h (r_ldC (o := 0) h rfl K.u_int rfl 4 rfl) rfl ?_)
        | (refine wv h (r_ldC (o := 0) h rfl K.u_int rfl 5 rfl) rfl ?_)
        | (refine wv h (r_ldC (o := 0) h rfl K.u_int rfl 6 rfl) rfl ?_)
        | (refine wv h (r_load h rfl K.u_int rfl 0 rfl rfl) rfl ?_)
        | (refine wv h (r_load h rfl K.u_int rfl 1 rfl rfl) rfl ?_)
        | (refine wv h (r_load h rfl K.u_int rfl 2 rfl rfl) rfl ?_)
        | (refine wv h (r_load h rfl K.u_int rfl 3 rfl rfl) rfl ?_)
        | (refine wv h (r_load h rfl K.u_int rfl 4 rfl rfl) rfl ?_)
        | (refine wv h (r_load h rfl K.u_int rfl 5 rfl rfl) rfl ?_)
        | (refine wv h (r_load1 h rfl K.u_int rfl (by assumption)) rfl ?_)
    clear h a w; intro a w h
    refine wv h (r_bin h rfl rfl (B.eql_int)) rfl ?_
    clear h a w; intro a w h
    refine wnil (c_then ?_)
    first
     | refine c_condD h rfl (fun ht2 => ?_) (fun ht2 => ?_)
     | refine c_condP h rfl (by first | (simp only [Bool.and_eq_true, Bool.or_eq_true, Bool.not_eq_true', decide_eq_true_eq, decide_eq_false_iff_not, ne_eq, Bool.not_eq_eq_eq_not, Bool.not_true, beq_iff_eq, bne_iff_ne]; exact Iff.rfl) | exact Iff.rfl) (fun ht2 => ?_) (fun ht2 => ?_)
    ·
     as_aux_lemma =>
      refine c_seq (c_region ?_)
      refine wv h (r_assign h rfl) rfl ?_
      clear h a w; intro a w h
      refine wnil (c_then ?_)
      refine c_ret ?_
      exact ret1 h rfl rfl ⟨(), by rw [brk5, ← hx2, decide_eq_true ht2]; rfl, h.2.drop 1, trivial⟩
    ·
     rw [decide_eq_false ht2, Bool.false_or] at hx2
     refine c_skip ?_
     refine c_then ?_
     refine c_seq (c_region ?_)
     refine wv h (r_move h rfl) rfl ?_
     clear h a w; intro a w h
     refine wv h (r_move h rfl) rfl ?_
     clear h a w; intro a w h
     refine wl rfl (op_call h rfl K.go_chart_Find (chart_Find s _ v l at_ _ hr hl (by first | exact Views.own 0 rfl | exact Views.own 1 rfl | exact Views.own 2 rfl | exact Views.own 3 rfl | exact Views.own 4 rfl | exact Views.own 5 rfl | assumption | exact Views.of_drop 1 (by assumption) | exact Views.of_drop 2 (by assumption) | exact Views.of_drop 3 (by assumption) | exact Views.of_drop 4 (by assumption) | exact Views.of_drop 5 (by assumption) | exact Views.of_drop 6 (by assumption) | exact Views.of_drop 7 (by assumption) | exact Views.of_drop 8 (by assumption) | exact Views.of_drop 9 (by assumption) | exact Views.of_drop 10 (by assumption) | exact Views.of_drop 11 (by assumption) | exact Views.of_drop 12 (by assumption)) h.2) rfl ?_)
     clear h a w; intro x a w hx h
     (try simp only [List.set_cons_zero, List.set_cons_succ] at h)
     refine wv h (r_move h rfl) rfl ?_
     clear h a w; intro a w h
     refine wv h (r_extractN h rfl rfl) rfl ?_
     clear h a w; intro a w h
     refine wv h (r_extractN h rfl rfl) rfl ?_
     clear h a w; intro a w h
     refine wl rfl (op_alloc h K.z_api_Elem rfl ?_)
     clear h a w; intro b6 a w h
     first
          | (refine wl rfl (op_stA h rfl rfl K.sz_api_Elem (by first | exact Row.len _ | rfl | assumption | (simp; done) | (simp; omega) | omega) (by first | exact Row.one _ | exact bs_one _ | assumption | (simp; done) | (simp; (repeat' apply And.intro) <;> first | rfl | assumption)) 0 rfl (by first | rfl | assumption | (simp; done) | (simp; omega) | omega) ?_))
          | (refine wl rfl (op_stA h rfl rfl K.sz_api_Elem (by first | exact Row.len _ | rfl | assumption | (simp; done) | (simp; omega) | omega) (by first | exact Row.one _ | exact bs_one _ | assumption | (simp; done) | (simp; (repeat' apply And.intro) <;> first | rfl | assumption)) 1 rfl (by first | rfl | assumption | (simp; done) | (simp; omega) | omega) ?_))
          | (refine wl rfl (op_stA h rfl rfl K.sz_api_Elem (by first | exact Row.len _ | rfl | assumption | (simp; done) | (simp; omega) | omega) (by first | exact Row.one _ | exact bs_one _ | assumption | (simp; done) | (simp; (repeat' apply And.intro) <;> first | rfl | assumption)) 2 rfl (by first | rfl | assumption | (simp; done) | (simp; omega) | omega) ?_))
          | (refine wl rfl (op_stA h rfl rfl K.sz_api_Elem (by first | exact Row.len _ | rfl | assumption | (simp; done) | (simp; omega) | omega) (by first | exact Row.one _ | exact bs_one _ | assumption | (simp; done) | (simp; (repeat' apply And.intro) <;> first | rfl | assumption)) 3 rfl (by first | rfl | assumption | (simp; done) | (simp; omega) | omega) ?_))
          | (refine wl rfl (op_stA h rfl rfl K.sz_api_Elem (by first | exact Row.len _ | rfl | assumption | (simp; done) | (simp; omega) | omega) (by first | exact Row.one _ | exact bs_one _ | assumption | (simp; done) | (simp; (repeat' apply And.intro) <;> first | rfl | assumption)) 4 rfl (by first | rfl | assumption | (simp; done) | (simp; omega) | omega) ?_))
          | (refine wl rfl (op_stA h rfl rfl K.sz_api_Elem (by first | exact Row.len _ | rfl | assumption | (simp; done) | (simp; omega) | omega) (by first | exact Row.one _ | exact bs_one _ | assumption | (simp; done) | (simp; (repeat' apply And.intro) <;> first | rfl | assumption)) 5 rfl (by first | rfl | assumption | (simp; done) | (simp; omega) | omega) ?_))
     clear h a w; intro a w h
     (try simp only [List.set_cons_zero, List.set_cons_succ] at h)
     refine wv h (r_assign h rfl) rfl ?_
     clear h a w; intro a w h
     refine wnil (c_then ?_)
     refine c_seq ?_
     refine c_seq (c_region ?_)
     refine wv h (r_move h rfl) rfl ?_
     clear h a w; intro a w h
     refine wv h (r_not h rfl) rfl ?_
     clear h a w; intro a w h
     refine wnil (c_then ?_)
     refine c_cond h rfl (fun ht3 => ?_) (fun ht3 => ?_)
     ·
      have hf : findE l at_ = none := by cases q : findE l at_ <;> simp [q] at ht3 ⊢
      rw [hf] at hx2
      as_aux_lemma =>
       refine c_seq (c_region ?_)
       refine wv h (r_assign h rfl) rfl ?_
       clear h a w; intro a w h
       refine wnil (c_then ?_)
       refine c_ret ?_
       exact ret1 h rfl rfl ⟨(), by rw [brk5, ← hx2], h.2.drop 2, trivial⟩
     ·
      obtain ⟨x, hf⟩ : ∃ x, findE l at_ = some x := by cases q : findE l at_ <;> simp [q] at ht3 ⊢
      rw [hf] at hx2
      have hd : findD l at_ = x := by rw [findD, hf]; rfl
      rw [hd] at h
      refine c_skip ?_
      refine c_then ?_
      refine c_region ?_
      refine wv h (r_fieldAddr h 2 rfl K.u_api_Elem rfl K.sz_int rfl rfl) rfl ?_
      clear h a w; intro a w h
      first
            | (refine wv h (r_ldN h rfl K.u_int rfl 0 rfl rfl) rfl ?_)
            | (refine wv h (r_ldN h rfl K.u_int rfl 1 rfl rfl) rfl ?_)
            | (refine wv h (r_ldN h rfl K.u_int rfl 2 rfl rfl) rfl ?_)
            | (refine wv h (r_ldN h rfl K.u_int rfl 3 rfl rfl) rfl ?_)
            | (refine wv h (r_ldN h rfl K.u_int rfl 4 rfl rfl) rfl ?_)
            | (refine wv h (r_ldN h rfl K.u_int rfl 5 rfl rfl) rfl ?_)
            | (refine wv h (r_ldN h rfl K.u_int rfl 6 rfl rfl) rfl ?_)
            | (refine wv h (r_ldC (o := 2) h rfl K.u_int rfl 0 rfl) rfl ?_)
            | (refine wv h (r_ldC (o := 2) h rfl K.u_int rfl 1 rfl) rfl ?_)
            | (refine wv h (r_ldC (o := 2) h rfl K.u_int rfl 2 rfl) rfl ?_)
            | (refine wv h (r_ldC (o := 2) h rfl K.u_int rfl 3 rfl) rfl ?_)
            | (refine wv h (r_ldC (o := 2) h rfl K.u_int rfl 4 rfl) rfl ?_)
            | (refine wv h (r_ldC (o := 2) h rfl K.u_int rfl 5 rfl) rfl ?_)
            | (refine wv h (r_ldC (o := 2) h rfl K.u_int rfl 6 rfl) rfl ?_)
            | (refine wv h (r_load h rfl K.u_int rfl 0 rfl rfl) rfl ?_)
            | (refine wv h (r_load h rfl K.u_int rfl 1 rfl rfl) rfl ?_)
            | (refine wv h (r_load h rfl K.u_int rfl 2 rfl rfl) rfl ?_)
            | (refine wv h (r_load h rfl K.u_int rfl 3 rfl rfl) rfl ?_)
            | (refine wv h (r_load h rfl K.u_int rfl 4 rfl rfl) rfl ?_)
            | (refine wv h (r_load h rfl K.u_int rfl 5 rfl rfl) rfl ?_)
            | (refine wv h (r_load1 h rfl K.u_int rfl (by assumption)) rfl ?_)
      clear h a w; intro a w h
      refine wv h (r_assign h rfl) rfl ?_
      clear h a w; intro a w h
      refine wnil ?_
      refine b_normal ?_
      refine c_then ?_
      refine c_region ?_
      refine wv h (r_bin h rfl rfl (B.add_i64 (by omega) (by omega))) rfl ?_
      clear h a w; intro a w h
      refine wv h (r_move h rfl) rfl ?_
      clear h a w; intro a w h
      refine wnil ?_
      exact ⟨(i + 1, x.parent), (h.drop 1).keep [0, 3, 5, 11, 12], ⟨by show i + 1 ≤ l.length; omega, hx2⟩, by show l.length - (i + 1) < l.length - i; omega⟩
   ·
    obtain rfl : i = l.length := by omega
    rw [Nat.sub_self, ringE] at hx2
    refine c_exit ?_
    refine e_then ?_
    refine e_then ?_
    refine e_here ?_
    refine c_then ?_
    refine c_seq (c_region ?_)
    refine wv h (r_assign h rfl) rfl ?_
    clear h a w; intro a w h
    refine wnil (c_then ?_)
    refine c_ret ?_
    exact ret1 h rfl rfl ⟨(), by rw [brk5, ← hx2], h.2.drop 1, trivial⟩

theorem ends_eq {l : List El} {e : El} (hk : ∀ x ∈ l, brk2 x = false) (h5 : e.kind = 5) : brk6 l e = (!(findE l e.src).isSome || decide ((findD l e.src).kind ≠ 1) || !(findE l e.dst).isSome || decide ((findD l e.dst).kind = 2) || decide ((findD l e.dst).kind = 5)) := by
  rw [brk6, decide_eq_true h5, Bool.true_and, kindE, kindE, findD, findD]
  cases ha : findE l e.src with
  | none => simp
  | some x =>
    cases hb : findE l e.dst with
    | none => simp
    | some y =>
      have hy := brk2_kind (hk y (List.mem_of_find?_eq_some hb))
      rcases hy with q | q | q | q | q <;> simp [q]
theorem rules_ends (s w : World) (v : Value) (l : List El) (e : El) (F : List HItem) (hk : ∀ x ∈ l, brk2 x = false) (hr : Rises l) (hl : l.length ≤ 1000) (hv : Views F 10 v l.length (l.flatMap cellsE)) (hs : Sat s w F) :
    Calls P n_rules_ends #[v, .agg ⟨cellsE e⟩] w (Ret s (fun _ : Unit => .bool (brk6 l e)) (fun _ => F) (fun _ => True)) := by
  refine enter K.fn_rules_ends rfl K.nt_rules_ends rfl hs ?_
  clear hs w; intro a w h
  refine c_seq (c_region ?_)
  refine wl rfl (op_box h rfl rfl ?_)
  clear h a w; intro b3 a w h
  try simp only [Value.cells] at h
  refine wv h (r_assign h rfl) rfl ?_
  clear h a w; intro a w h
  refine wnil (c_then ?_)
  refine c_seq ?_
  refine c_seq (c_region ?_)
  refine wv h (r_fieldAddr h 1 rfl K.u_api_Elem rfl K.sz_uint8 rfl rfl) rfl ?_
  clear h a w; intro a w h
  first
    | (refine wv h (r_ldN h rfl K.u_uint8 rfl 0 rfl rfl) rfl ?_)
    | (refine wv h (r_ldN h rfl K.u_uint8 rfl 1 rfl rfl) rfl ?_)
    | (refine wv h (r_ldN h rfl K.u_uint8 rfl 2 rfl rfl) rfl ?_)
    | (refine wv h (r_ldN h rfl K.u_uint8 rfl 3 rfl rfl) rfl ?_)
    | (refine wv h (r_ldN h rfl K.u_uint8 rfl 4 rfl rfl) rfl ?_)
    | (refine wv h (r_ldN h rfl K.u_uint8 rfl 5 rfl rfl) rfl ?_)
    | (refine wv h (r_ldN h rfl K.u_uint8 rfl 6 rfl rfl) rfl ?_)
    | (refine wv h (r_ldC (o := 1) h rfl K.u_uint8 rfl 0 rfl) rfl ?_)
    | (refine wv h (r_ldC (o := 1) h rfl K.u_uint8 rfl 1 rfl) rfl ?_)
    | (refine wv h (r_ldC (o := 1) h rfl K.u_uint8 rfl 2 rfl) rfl ?_)
    | (refine wv h (r_ldC (o := 1) h rfl K.u_uint8 rfl 3 rfl) rfl ?_)
    | (refine wv h (r_ldC (o := 1) h rfl K.u_uint8 rfl 4 rfl) rfl ?_)
    | (refine wv h (r_ldC (o := 1) h rfl K.u_uint8 rfl 5 rfl) rfl ?_)
    | (refine wv h (r_ldC (o := 1) h rfl K.u_uint8 rfl 6 rfl) rfl ?_)
    | (refine wv h (r_load h rfl K.u_uint8 rfl 0 rfl rfl) rfl ?_)
    | (refine wv h (r_load h rfl K.u_uint8 rfl 1 rfl rfl) rfl ?_)
    | (refine wv h (r_load h rfl K.u_uint8 rfl 2 rfl rfl) rfl ?_)
    | (refine wv h (r_load h rfl K.u_uint8 rfl 3 rfl rfl) rfl ?_)
    | (refine wv h (r_load h rfl K.u_uint8 rfl 4 rfl rfl) rfl ?_)
    | (refine wv h (r_load h rfl K.u_uint8 rfl 5 rfl rfl) rfl ?_)
    | (refine wv h (r_load1 h rfl K.u_uint8 rfl (by assumption)) rfl ?_)
  clear h a w; intro a w h
  refine wv h (r_bin h rfl rfl (B.neq_u8 (y := 5))) rfl ?_
  clear h a w; intro a w h
  refine wnil (c_then ?_)
  first
   | refine c_condD h rfl (fun ht1 => ?_) (fun ht1 => ?_)
   | refine c_condP h rfl (by first | (simp only [Bool.and_eq_true, Bool.or_eq_true, Bool.not_eq_true', decide_eq_true_eq, decide_eq_false_iff_not, ne_eq, Bool.not_eq_eq_eq_not, Bool.not_true, beq_iff_eq, bne_iff_ne]; exact Iff.rfl) | exact Iff.rfl) (fun ht1 => ?_) (fun ht1 => ?_)
  ·
   as_aux_lemma =>
    refine c_seq (c_region ?_)
    refine wv h (r_assign h rfl) rfl ?_
    clear h a w; intro a w h
    refine wnil (c_then ?_)
    refine c_ret ?_
    exact ret1 h rfl rfl ⟨(), by rw [brk6, decide_eq_false ht1]; rfl, h.2.drop 1, trivial⟩
  ·
   have h5 : e.kind = 5 := Decidable.not_not.1 ht1
   refine c_skip ?_
   refine c_then ?_
   refine c_seq (c_region ?_)
   refine wv h (r_move h rfl) rfl ?_
   clear h a w; intro a w h
   refine wv h (r_fieldAddr h 5 rfl K.u_api_Elem rfl K.sz_int rfl rfl) rfl ?_
   clear h a w; intro a w h
   first
      | (refine wv h (r_ldN h rfl K.u_int rfl 0 rfl rfl) rfl ?_)
      | (refine wv h (r_ldN h rfl K.u_int rfl 1 rfl rfl) rfl ?_)
      | (refine wv h (r_ldN h rfl K.u_int rfl 2 rfl rfl) rfl ?_)
      | (refine wv h (r_ldN h rfl K.u_int rfl 3 rfl rfl) rfl ?_)
      | (refine wv h (r_ldN h rfl K.u_int rfl 4 rfl rfl) rfl ?_)
      | (refine wv h (r_ldN h rfl K.u_int rfl 5 rfl rfl) rfl ?_)
      | (refine wv h (r_ldN h rfl K.u_int rfl 6 rfl rfl) rfl ?_)
      | (refine wv h (r_ldC (o := 5) h rfl K.u_int rfl 0 rfl) rfl ?_)
      | (refine wv h (r_ldC (o := 5) h rfl K.u_int rfl 1 rfl) rfl ?_)
      | (refine wv h (r_ldC (o := 5) h rfl K.u_int rfl 2 rfl) rfl ?_)
      | (refine wv h (r_ldC (o := 5) h rfl K.u_int rfl 3 rfl) rfl ?_)
      | (refine wv h (r_ldC (o := 5) h rfl K.u_int rfl 4 rfl) rfl ?_)
      | (refine wv h (r_ldC (o := 5) h rfl K.u_int rfl 5 rfl) rfl ?_)
      | (refine wv h (r_ldC (o := 5) h rfl K.u_int rfl 6 rfl) rfl ?_)
      | (refine wv h (r_load h rfl K.u_int rfl 0 rfl rfl) rfl ?_)
      | (refine wv h (r_load h rfl K.u_int rfl 1 rfl rfl) rfl ?_)
      | (refine wv h (r_load h rfl K.u_int rfl 2 rfl rfl) rfl ?_)
      | (refine wv h (r_load h rfl K.u_int rfl 3 rfl rfl) rfl ?_)
      | (refine wv h (r_load h rfl K.u_int rfl 4 rfl rfl) rfl ?_)
      | (refine wv h (r_load h rfl K.u_int rfl 5 rfl rfl) rfl ?_)
      | (refine wv h (r_load1 h rfl K.u_int rfl (by assumption)) rfl ?_)
   clear h a w; intro a w h
   refine wl rfl (op_call h rfl K.go_chart_Find (chart_Find s _ v l e.src _ hr hl (by first | exact Views.own 0 rfl | exact Views.own 1 rfl | exact Views.own 2 rfl | exact Views.own 3 rfl | exact Views.own 4 rfl | exact Views.own 5 rfl | assumption | exact Views.of_drop 1 (by assumption) | exact Views.of_drop 2 (by assumption) | exact Views.of_drop 3 (by assumption) | exact Views.of_drop 4 (by assumption) | exact Views.of_drop 5 (by assumption) | exact Views.of_drop 6 (by assumption) | exact Views.of_drop 7 (by assumption) | exact Views.of_drop 8 (by assumption) | exact Views.of_drop 9 (by assumption) | exact Views.of_drop 10 (by assumption) | exact Views.of_drop 11 (by assumption) | exact Views.of_drop 12 (by assumption)) h.2) rfl ?_)
   clear h a w; intro x a w hx h
   (try simp only [List.set_cons_zero, List.set_cons_succ] at h)
   refine wv h (r_move h rfl) rfl ?_
   clear h a w; intro a w h
   refine wv h (r_extractN h rfl rfl) rfl ?_
   clear h a w; intro a w h
   refine wv h (r_extractN h rfl rfl) rfl ?_
   clear h a w; intro a w h
   refine wl rfl (op_alloc h K.z_api_Elem rfl ?_)
   clear h a w; intro b5 a w h
   first
      | (refine wl rfl (op_stA h rfl rfl K.sz_api_Elem (by first | exact Row.len _ | rfl | assumption | (simp; done) | (simp; omega) | omega) (by first | exact Row.one _ | exact bs_one _ | assumption | (simp; done) | (simp; (repeat' apply And.intro) <;> first | rfl | assumption)) 0 rfl (by first | rfl | assumption | (simp; done) | (simp; omega) | omega) ?_))
      | (refine wl rfl (op_stA h rfl rfl K.sz_api_Elem (by first | exact Row.len _ | rfl | assumption | (simp; done) | (simp; omega) | omega) (by first | exact Row.one _ | exact bs_one _ | assumption | (simp; done) | (simp; (repeat' apply And.intro) <;> first | rfl | assumption)) 1 rfl (by first | rfl | assumption | (simp; done) | (simp; omega) | omega) ?_))
      | (refine wl rfl (op_stA h rfl rfl K.sz_api_Elem (by first | exact Row.len _ | rfl | assumption | (simp; done) | (simp; omega) | omega) (by first | exact Row.one _ | exact bs_one _ | assumption | (simp; done) | (simp; (repeat' apply And.intro) <;> first | rfl | assumption)) 2 rfl (by first | rfl | assumption | (simp; done) | (simp; omega) | omega) ?_))
      | (refine wl rfl (op_stA h rfl rfl K.sz_api_Elem (by first | exact Row.len _ | rfl | assumption | (simp; done) | (simp; omega) | omega) (by first | exact Row.one _ | exact bs_one _ | assumption | (simp; done) | (simp; (repeat' apply And.intro) <;> first | rfl | assumption)) 3 rfl (by first | rfl | assumption | (simp; done) | (simp; omega) | omega) ?_))
      | (refine wl rfl (op_stA h rfl rfl K.sz_api_Elem (by first | exact Row.len _ | rfl | assumption | (simp; done) | (simp; omega) | omega) (by first | exact Row.one _ | exact bs_one _ | assumption | (simp; done) | (simp; (repeat' apply And.intro) <;> first | rfl | assumption)) 4 rfl (by first | rfl | assumption | (simp; done) | (simp; omega) | omega) ?_))
      | (refine wl rfl (op_stA h rfl rfl K.sz_api_Elem (by first | exact Row.len _ | rfl | assumption | (simp; done) | (simp; omega) | omega) (by first | exact Row.one _ | exact bs_one _ | assumption | (simp; done) | (simp; (repeat' apply And.intro) <;> first | rfl | assumption)) 5 rfl (by first | rfl | assumption | (simp; done) | (simp; omega) | omega) ?_))
   clear h a w; intro a w h
   (try simp only [List.set_cons_zero, List.set_cons_succ] at h)
   refine wv h (r_assign h rfl) rfl ?_
   clear h a w; intro a w h
   refine wnil (c_then ?_)
   refine c_seq (c_region ?_)
   refine wv h (r_move h rfl) rfl ?_
   clear h a w; intro a w h
   refine wv h (r_fieldAddr h 6 rfl K.u_api_Elem rfl K.sz_int rfl rfl) rfl ?_
   clear h a w; intro a w h
   first
      | (refine wv h (r_ldN h rfl K.u_int rfl 0 rfl rfl) rfl ?_)
      | (refine wv h (r_ldN h rfl K.u_int rfl 1 rfl rfl) rfl ?_)
      | (refine wv h (r_ldN h rfl K.u_int rfl 2 rfl rfl) rfl ?_)
      | (refine wv h (r_ldN h rfl K.u_int rfl 3 rfl rfl) rfl ?_)
      | (refine wv h (r_ldN h rfl K.u_int rfl 4 rfl rfl) rfl ?_)
      | (refine wv h (r_ldN h rfl K.u_int rfl 5 rfl rfl) rfl ?_)
      | (refine wv h (r_ldN h rfl K.u_int rfl 6 rfl rfl) rfl ?_)
      | (refine wv h (r_ldC (o := 6) h rfl K.u_int rfl 0 rfl) rfl ?_)
      | (refine wv h (r_ldC (o := 6) h rfl K.u_int rfl 1 rfl) rfl ?_)
      | (refine wv h (r_ldC (o := 6) h rfl K.u_int rfl 2 rfl) rfl ?_)
      | (refine wv h (r_ldC (o := 6) h rfl K.u_int rfl 3 rfl) rfl ?_)
      | (refine wv h (r_ldC (o := 6) h rfl K.u_int rfl 4 rfl) rfl ?_)
      | (refine wv h (r_ldC (o := 6) h rfl K.u_int rfl 5 rfl) rfl ?_)
      | (refine wv h (r_ldC (o := 6) h rfl K.u_int rfl 6 rfl) rfl ?_)
      | (refine wv h (r_load h rfl K.u_int rfl 0 rfl rfl) rfl ?_)
      | (refine wv h (r_load h rfl K.u_int rfl 1 rfl rfl) rfl ?_)
      | (refine wv h (r_load h rfl K.u_int rfl 2 rfl rfl) rfl ?_)
      | (refine wv h (r_load h rfl K.u_int rfl 3 rfl rfl) rfl ?_)
      | (refine wv h (r_load h rfl K.u_int rfl 4 rfl rfl) rfl ?_)
      | (refine wv h (r_load h rfl K.u_int rfl 5 rfl rfl) rfl ?_)
      | (refine wv h (r_load1 h rfl K.u_int rfl (by assumption)) rfl ?_)
   clear h a w; intro a w h
   refine wl rfl (op_call h rfl K.go_chart_Find (chart_Find s _ v l e.dst _ hr hl (by first | exact Views.own 0 rfl | exact Views.own 1 rfl | exact Views.own 2 rfl | exact Views.own 3 rfl | exact Views.own 4 rfl | exact Views.own 5 rfl | assumption | exact Views.of_drop 1 (by assumption) | exact Views.of_drop 2 (by assumption) | exact Views.of_drop 3 (by assumption) | exact Views.of_drop 4 (by assumption) | exact Views.of_drop 5 (by assumption) | exact Views.of_drop 6 (by assumption) | exact Views.of_drop 7 (by assumption) | exact Views.of_drop 8 (by assumption) | exact Views.of_drop 9 (by assumption) | exact Views.of_drop 10 (by assumption) | exact Views.of_drop 11 (by assumption) | exact Views.of_drop 12 (by assumption)) h.2) rfl ?_)
   clear h a w; intro x a w hx h
   (try simp only [List.set_cons_zero, List.set_cons_succ] at h)
   refine wv h (r_move h rfl) rfl ?_
   clear h a w; intro a w h
   refine wv h (r_extractN h rfl rfl) rfl ?_
   clear h a w; intro a w h
   refine wv h (r_extractN h rfl rfl) rfl ?_
   clear h a w; intro a w h
   refine wl rfl (op_alloc h K.z_api_Elem rfl ?_)
   clear h a w; intro b7 a w h
   first
      | (refine wl rfl (op_stA h rfl rfl K.sz_api_Elem (by first | exact Row.len _ | rfl | assumption | (simp; done) | (simp; omega) | omega) (by first | exact Row.one _ | exact bs_one _ | assumption | (simp; done) | (simp; (repeat' apply And.intro) <;> first | rfl | assumption)) 0 rfl (by first | rfl | assumption | (simp; done) | (simp; omega) | omega) ?_))
      | (refine wl rfl (op_stA h rfl rfl K.sz_api_Elem (by first | exact Row.len _ | rfl | assumption | (simp; done) | (simp; omega) | omega) (by first | exact Row.one _ | exact bs_one _ | assumption | (simp; done) | (simp; (repeat' apply And.intro) <;> first | rfl | assumption)) 1 rfl (by first | rfl | assumption | (simp; done) | (simp; omega) | omega) ?_))
      | (refine wl rfl (op_stA h rfl rfl K.sz_api_Elem (by first | exact Row.len _ | rfl | assumption | (simp; done) | (simp; omega) | omega) (by first | exact Row.one _ | exact bs_one _ | assumption | (simp; done) | (simp; (repeat' apply And.intro) <;> first | rfl | assumption)) 2 rfl (by first | rfl | assumption | (simp; done) | (simp; omega) | omega) ?_))
      | (refine wl rfl (op_stA h rfl rfl K.sz_api_Elem (by first | exact Row.len _ | rfl | assumption | (simp; done) | (simp; omega) | omega) (by first | exact Row.one _ | exact bs_one _ | assumption | (simp; done) | (simp; (repeat' apply And.intro) <;> first | rfl | assumption)) 3 rfl (by first | rfl | assumption | (simp; done) | (simp; omega) | omega) ?_))
      | (refine wl rfl (op_stA h rfl rfl K.sz_api_Elem (by first | exact Row.len _ | rfl | assumption | (simp; done) | (simp; omega) | omega) (by first | exact Row.one _ | exact bs_one _ | assumption | (simp; done) | (simp; (repeat' apply And.intro) <;> first | rfl | assumption)) 4 rfl (by first | rfl | assumption | (simp; done) | (simp; omega) | omega) ?_))
      | (refine wl rfl (op_stA h rfl rfl K.sz_api_Elem (by first | exact Row.len _ | rfl | assumption | (simp; done) | (simp; omega) | omega) (by first | exact Row.one _ | exact bs_one _ | assumption | (simp; done) | (simp; (repeat' apply And.intro) <;> first | rfl | assumption)) 5 rfl (by first | rfl | assumption | (simp; done) | (simp; omega) | omega) ?_))
   clear h a w; intro a w h
   (try simp only [List.set_cons_zero, List.set_cons_succ] at h)
   refine wv h (r_assign h rfl) rfl ?_
   clear h a w; intro a w h
   refine wnil (c_then ?_)
   refine c_seq (c_region ?_)
   refine wv h (r_move h rfl) rfl ?_
   clear h a w; intro a w h
   refine wv h (r_not h rfl) rfl ?_
   clear h a w; intro a w h
   refine wv h (r_move h rfl) rfl ?_
   clear h a w; intro a w h
   refine wvG h (by first | exact .t rfl | exact .f rfl | exact .gt rfl | exact .gf rfl) (fun hg => by (try simp only [↓gval_on hg, ↓gval_and hg] at h); (have hg2 := hg; (try simp only [Bool.and_eq_true, Bool.or_eq_true, Bool.not_eq_true', decide_eq_true_eq, decide_eq_false_iff_not] at hg2)); first | exact r_fieldAddr h 1 rfl K.u_api_Elem rfl K.sz_uint8 rfl rfl) rfl ?_
   clear h a w; intro a w h
   refine wvG h (by first | exact .t rfl | exact .f rfl | exact .gt rfl | exact .gf rfl) (fun hg => by (try simp only [↓gval_on hg, ↓gval_and hg] at h); (have hg2 := hg; (try simp only [Bool.and_eq_true, Bool.or_eq_true, Bool.not_eq_true', decide_eq_true_eq, decide_eq_false_iff_not] at hg2)); first | exact r_ldN h rfl K.u_uint8 rfl 0 rfl rfl | exact r_ldN h rfl K.u_uint8 rfl 1 rfl rfl | exact r_ldN h rfl K.u_uint8 rfl 2 rfl rfl | exact r_ldN h rfl K.u_uint8 rfl 3 rfl rfl | exact r_ldN h rfl K.u_uint8 rfl 4 rfl rfl | exact r_ldN h rfl K.u_uint8 rfl 5 rfl rfl | exact r_ldN h rfl K.u_uint8 rfl 6 rfl rfl | exact r_ldC (o := 1) h rfl K.u_uint8 rfl 0 rfl | exact r_ldC (o := 1) h rfl K.u_uint8 rfl 1 rfl | exact r_ldC (o := 1) h rfl K.u_uint8 rfl 2 rfl | exact r_ldC (o := 1) h rfl K.u_uint8 rfl 3 rfl | exact r_ldC (o := 1) h rfl K.u_uint8 rfl 4 rfl | exact r_ldC (o := 1) h rfl K.u_uint8 rfl 5 rfl | exact r_ldC (o := 1) h rfl K.u_uint8 rfl 6 rfl | exact r_load h rfl K.u_uint8 rfl 0 rfl rfl | exact r_load h rfl K.u_uint8 rfl 1 rfl rfl | exact r_load h rfl K.u_uint8 rfl 2 rfl rfl | exact r_load h rfl K.u_uint8 rfl 3 rfl rfl | exact r_load h rfl K.u_uint8 rfl 4 rfl rfl | exact r_load h rfl K.u_uint8 rfl 5 rfl rfl | exact r_load1 h rfl K.u_uint8 rfl (by assumption)) rfl ?_
   clear h a w; intro a w h
   refine wvG h (by first | exact .t rfl | exact .f rfl | exact .gt rfl | exact .gf rfl) (fun hg => by (try simp only [↓gval_on hg, ↓gval_and hg] at h); (have hg2 := hg; (try simp only [Bool.and_eq_true, Bool.or_eq_true, Bool.not_eq_true', decide_eq_true_eq, decide_eq_false_iff_not] at hg2)); first | exact r_bin h rfl rfl (B.neq_u8 (y := 1))) rfl ?_
   clear h a w; intro a w h
   first
      | (refine wv h (r_pickA h rfl rfl rfl) rfl ?_)
      | (refine wv h (r_pickO h rfl rfl rfl) rfl ?_)
      | (refine wv h (r_pick_true h rfl rfl) rfl ?_)
      | (refine wv h (r_pick_false h rfl rfl) rfl ?_)
      | (refine wv h (r_pick h rfl rfl rfl) rfl ?_)
   clear h a w; intro a w h
   refine wv h (r_move h rfl) rfl ?_
   clear h a w; intro a w h
   refine wvG h (by first | exact .t rfl | exact .f rfl | exact .gt rfl | exact .gf rfl) (fun hg => by (try simp only [↓gval_on hg, ↓gval_and hg] at h); (have hg2 := hg; (try simp only [Bool.and_eq_true, Bool.or_eq_true, Bool.not_eq_true', decide_eq_true_eq, decide_eq_false_iff_not] at hg2)); first | exact r_move h rfl) rfl ?_
   clear h a w; intro a w h
   refine wvG h (by first | exact .t rfl | exact .f rfl | exact .gt rfl | exact .gf rfl) (fun hg => by (try simp only [↓gval_on hg, ↓gval_and hg] at h); (have hg2 := hg; (try simp only [Bool.and_eq_true, Bool.or_eq_true, Bool.not_eq_true', decide_eq_true_eq, decide_eq_false_iff_not] at hg2)); first | exact r_not h rfl) rfl ?_
   clear h a w; intro a w h
   first
      | (refine wv h (r_pickA h rfl rfl rfl) rfl ?_)
      | (refine wv h (r_pickO h rfl rfl rfl) rfl ?_)
      | (refine wv h (r_pick_true h rfl rfl) rfl ?_)
      | (refine wv h (r_pick_false h rfl rfl) rfl ?_)
      | (refine wv h (r_pick h rfl rfl rfl) rfl ?_)
   clear h a w; intro a w h
   refine wv h (r_move h rfl) rfl ?_
   clear h a w; intro a w h
   refine wvG h (by first | exact .t rfl | exact .f rfl | exact .gt rfl | exact .gf rfl) (fun hg => by (try simp only [↓gval_on hg, ↓gval_and hg] at h); (have hg2 := hg; (try simp only [Bool.and_eq_true, Bool.or_eq_true, Bool.not_eq_true', decide_eq_true_eq, decide_eq_false_iff_not] at hg2)); first | exact r_fieldAddr h 1 rfl K.u_api_Elem rfl K.sz_uint8 rfl rfl) rfl ?_
   clear h a w; intro a w h
   refine wvG h (by first | exact .t rfl | exact .f rfl | exact .gt rfl | exact .gf rfl) (fun hg => by (try simp only [↓gval_on hg, ↓gval_and hg] at h); (have hg2 := hg; (try simp only [Bool.and_eq_true, Bool.or_eq_true, Bool.not_eq_true', decide_eq_true_eq, decide_eq_false_iff_not] at hg2)); first | exact r_ldN h rfl K.u_uint8 rfl 0 rfl rfl | exact r_ldN h rfl K.u_uint8 rfl 1 rfl rfl | exact r_ldN h rfl K.u_uint8 rfl 2 rfl rfl | exact r_ldN h rfl K.u_uint8 rfl 3 rfl rfl | exact r_ldN h rfl K.u_uint8 rfl 4 rfl rfl | exact r_ldN h rfl K.u_uint8 rfl 5 rfl rfl | exact r_ldN h rfl K.u_uint8 rfl 6 rfl rfl | exact r_ldC (o := 1) h rfl K.u_uint8 rfl 0 rfl | exact r_ldC (o := 1) h rfl K.u_uint8 rfl 1 rfl | exact r_ldC (o := 1) h rfl K.u_uint8 rfl 2 rfl | exact r_ldC (o := 1) h rfl K.u_uint8 rfl 3 rfl | exact r_ldC (o := 1) h rfl K.u_uint8 rfl 4 rfl | exact r_ldC (o := 1) h rfl K.u_uint8 rfl 5 rfl | exact r_ldC (o := 1) h rfl K.u_uint8 rfl 6 rfl | exact r_load h rfl K.u_uint8 rfl 0 rfl rfl | exact r_load h rfl K.u_uint8 rfl 1 rfl rfl | exact r_load h rfl K.u_uint8 rfl 2 rfl rfl | exact r_load h rfl K.u_uint8 rfl 3 rfl rfl | exact r_load h rfl K.u_uint8 rfl 4 rfl rfl | exact r_load h rfl K.u_uint8 rfl 5 rfl rfl | exact r_load1 h rfl K.u_uint8 rfl (by assumption)) rfl ?_
   clear h a w; intro a w h
   refine wvG h (by first | exact .t rfl | exact .f rfl | exact .gt rfl | exact .gf rfl) (fun hg => by (try simp only [↓gval_on hg, ↓gval_and hg] at h); (have hg2 := hg; (try simp only [Bool.and_eq_true, Bool.or_eq_true, Bool.not_eq_true', decide_eq_true_eq, decide_eq_false_iff_not] at hg2)); first | exact r_bin h rfl rfl (B.eql_u8 (y := 2))) rfl ?_
   clear h a w; intro a w h
   first
      | (refine wv h (r_pickA h rfl rfl rfl) rfl ?_)
      | (refine wv h (r_pickO h rfl rfl rfl) rfl ?_)
      | (refine wv h (r_pick_true h rfl rfl) rfl ?_)
      | (refine wv h (r_pick_false h rfl rfl) rfl ?_)
      | (refine wv h (r_pick h rfl rfl rfl) rfl ?_)
   clear h a w; intro a w h
   refine wv h (r_move h rfl) rfl ?_
   clear h a w; intro a w h
   refine wvG h (by first | exact .t rfl | exact .f rfl | exact .gt rfl | exact .gf rfl) (fun hg => by (try simp only [↓gval_on hg, ↓gval_and hg] at h); (have hg2 := hg; (try simp only [Bool.and_eq_true, Bool.or_eq_true, Bool.not_eq_true', decide_eq_true_eq, decide_eq_false_iff_not] at hg2)); first | exact r_fieldAddr h 1 rfl K.u_api_Elem rfl K.sz_uint8 rfl rfl) rfl ?_
   clear h a w; intro a w h
   refine wvG h (by first | exact .t rfl | exact .f rfl | exact .gt rfl | exact .gf rfl) (fun hg => by (try simp only [↓gval_on hg, ↓gval_and hg] at h); (have hg2 := hg; (try simp only [Bool.and_eq_true, Bool.or_eq_true, Bool.not_eq_true', decide_eq_true_eq, decide_eq_false_iff_not] at hg2)); first | exact r_ldN h rfl K.u_uint8 rfl 0 rfl rfl | exact r_ldN h rfl K.u_uint8 rfl 1 rfl rfl | exact r_ldN h rfl K.u_uint8 rfl 2 rfl rfl | exact r_ldN h rfl K.u_uint8 rfl 3 rfl rfl | exact r_ldN h rfl K.u_uint8 rfl 4 rfl rfl | exact r_ldN h rfl K.u_uint8 rfl 5 rfl rfl | exact r_ldN h rfl K.u_uint8 rfl 6 rfl rfl | exact r_ldC (o := 1) h rfl K.u_uint8 rfl 0 rfl | exact r_ldC (o := 1) h rfl K.u_uint8 rfl 1 rfl | exact r_ldC (o := 1) h rfl K.u_uint8 rfl 2 rfl | exact r_ldC (o := 1) h rfl K.u_uint8 rfl 3 rfl | exact r_ldC (o := 1) h rfl K.u_uint8 rfl 4 rfl | exact r_ldC (o := 1) h rfl K.u_uint8 rfl 5 rfl | exact r_ldC (o := 1) h rfl K.u_uint8 rfl 6 rfl | exact r_load h rfl K.u_uint8 rfl 0 rfl rfl | exact r_load h rfl K.u_uint8 rfl 1 rfl rfl | exact r_load h rfl K.u_uint8 rfl 2 rfl rfl | exact r_load h rfl K.u_uint8 rfl 3 rfl rfl | exact r_load h rfl K.u_uint8 rfl 4 rfl rfl | exact r_load h rfl K.u_uint8 rfl 5 rfl rfl | exact r_load1 h rfl K.u_uint8 rfl (by assumption)) rfl ?_
   clear h a w; intro a w h
   refine wvG h (by first | exact .t rfl | exact .f rfl | exact .gt rfl | exact .gf rfl) (fun hg => by (try simp only [↓gval_on hg, ↓gval_and hg] at h); (have hg2 := hg; (try simp only [Bool.and_eq_true, Bool.or_eq_true, Bool.not_eq_true', decide_eq_true_eq, decide_eq_false_iff_not] at hg2)); first | exact r_bin h rfl rfl (B.eql_u8 (y := 5))) rfl ?_
   clear h a w; intro a w h
   first
      | (refine wv h (r_pickA h rfl rfl rfl) rfl ?_)
      | (refine wv h (r_pickO h rfl rfl rfl) rfl ?_)
      | (refine wv h (r_pick_true h rfl rfl) rfl ?_)
      | (refine wv h (r_pick_false h rfl rfl) rfl ?_)
      | (refine wv h (r_pick h rfl rfl rfl) rfl ?_)
   clear h a w; intro a w h
   refine wv h (r_assign h rfl) rfl ?_
   clear h a w; intro a w h
   refine wnil (c_then ?_)
   refine c_ret ?_
   exact ret1 h rfl rfl ⟨(), by rw [ends_eq hk h5], h.2.drop 3, trivial⟩

theorem hit7_eq {e x : El} (h : e.kind = 5) : (decide (x.id ≠ e.id) && decide (x.kind = 5) && decide (x.src = e.src) && decide (x.order = e.order)) = hit7 e x := by
  rw [hit7, decide_eq_true h, Bool.true_and, Bool.and_comm (decide (x.kind = 5))]
theorem rules_orders (s w : World) (v : Value) (l : List El) (e : El) (F : List HItem) (hl : l.length ≤ 1000) (hv : Views F 10 v l.length (l.flatMap cellsE)) (hs : Sat s w F) :
    Calls P n_rules_orders #[v, .agg ⟨cellsE e⟩] w (Ret s (fun _ : Unit => .bool (brk7 l e)) (fun _ => F) (fun _ => True)) := by
  refine enter K.fn_rules_orders rfl K.nt_rules_orders rfl hs ?_
  clear hs w; intro a w h
  refine c_seq (c_region ?_)
  refine wl rfl (op_box h rfl rfl ?_)
  clear h a w; intro b3 a w h
  try simp only [Value.cells] at h
  refine wv h (r_assign h rfl) rfl ?_
  clear h a w; intro a w h
  refine wnil (c_then ?_)
  refine c_seq ?_
  refine c_seq (c_region ?_)
  refine wv h (r_fieldAddr h 1 rfl K.u_api_Elem rfl K.sz_uint8 rfl rfl) rfl ?_
  clear h a w; intro a w h
  first
    | (refine wv h (r_ldN h rfl K.u_uint8 rfl 0 rfl rfl) rfl ?_)
    | (refine wv h (r_ldN h rfl K.u_uint8 rfl 1 rfl rfl) rfl ?_)
    | (refine wv h (r_ldN h rfl K.u_uint8 rfl 2 rfl rfl) rfl ?_)
    | (refine wv h (r_ldN h rfl K.u_uint8 rfl 3 rfl rfl) rfl ?_)
    | (refine wv h (r_ldN h rfl K.u_uint8 rfl 4 rfl rfl) rfl ?_)
    | (refine wv h (r_ldN h rfl K.u_uint8 rfl 5 rfl rfl) rfl ?_)
    | (refine wv h (r_ldN h rfl K.u_uint8 rfl 6 rfl rfl) rfl ?_)
    | (refine wv h (r_ldC (o := 1) h rfl K.u_uint8 rfl 0 rfl) rfl ?_)
    | (refine wv h (r_ldC (o := 1) h rfl K.u_uint8 rfl 1 rfl) rfl ?_)
    | (refine wv h (r_ldC (o := 1) h rfl K.u_uint8 rfl 2 rfl) rfl ?_)
    | (refine wv h (r_ldC (o := 1) h rfl K.u_uint8 rfl 3 rfl) rfl ?_)
    | (refine wv h (r_ldC (o := 1) h rfl K.u_uint8 rfl 4 rfl) rfl ?_)
    | (refine wv h (r_ldC (o := 1) h rfl K.u_uint8 rfl 5 rfl) rfl ?_)
    | (refine wv h (r_ldC (o := 1) h rfl K.u_uint8 rfl 6 rfl) rfl ?_)
    | (refine wv h (r_load h rfl K.u_uint8 rfl 0 rfl rfl) rfl ?_)
    | (refine wv h (r_load h rfl K.u_uint8 rfl 1 rfl rfl) rfl ?_)
    | (refine wv h (r_load h rfl K.u_uint8 rfl 2 rfl rfl) rfl ?_)
    | (refine wv h (r_load h rfl K.u_uint8 rfl 3 rfl rfl) rfl ?_)
    | (refine wv h (r_load h rfl K.u_uint8 rfl 4 rfl rfl) rfl ?_)
    | (refine wv h (r_load h rfl K.u_uint8 rfl 5 rfl rfl) rfl ?_)
    | (refine wv h (r_load1 h rfl K.u_uint8 rfl (by assumption)) rfl ?_)
  clear h a w; intro a w h
  refine wv h (r_bin h rfl rfl (B.neq_u8 (y := 5))) rfl ?_
  clear h a w; intro a w h
  refine wnil (c_then ?_)
  first
   | refine c_condD h rfl (fun ht1 => ?_) (fun ht1 => ?_)
   | refine c_condP h rfl (by first | (simp only [Bool.and_eq_true, Bool.or_eq_true, Bool.not_eq_true', decide_eq_true_eq, decide_eq_false_iff_not, ne_eq, Bool.not_eq_eq_eq_not, Bool.not_true, beq_iff_eq, bne_iff_ne]; exact Iff.rfl) | exact Iff.rfl) (fun ht1 => ?_) (fun ht1 => ?_)
  ·
   have hno : l.any (hit7 e) = false := by
     rw [List.any_eq_false]; intro x _; simp [hit7, ht1]
   as_aux_lemma =>
    refine c_seq (c_region ?_)
    refine wv h (r_assign h rfl) rfl ?_
    clear h a w; intro a w h
    refine wnil (c_then ?_)
    refine c_ret ?_
    exact ret1 h rfl rfl ⟨(), by rw [brk7, hno], h.2.drop 1, trivial⟩
  ·
   have hn : e.kind = 5 := Decidable.not_not.1 ht1
   refine c_skip ?_
   refine c_then ?_
   refine c_seq ?_
   refine c_seq (c_region ?_)
   refine wv h (r_move h rfl) rfl ?_
   clear h a w; intro a w h
   refine wv h (r_lenV h rfl K.u_api_Chart (by first | exact Views.own 0 rfl | exact Views.own 1 rfl | exact Views.own 2 rfl | exact Views.own 3 rfl | exact Views.own 4 rfl | exact Views.own 5 rfl | assumption | exact Views.of_drop 1 (by assumption) | exact Views.of_drop 2 (by assumption) | exact Views.of_drop 3 (by assumption) | exact Views.of_drop 4 (by assumption) | exact Views.of_drop 5 (by assumption) | exact Views.of_drop 6 (by assumption) | exact Views.of_drop 7 (by assumption) | exact Views.of_drop 8 (by assumption) | exact Views.of_drop 9 (by assumption) | exact Views.of_drop 10 (by assumption) | exact Views.of_drop 11 (by assumption) | exact Views.of_drop 12 (by assumption))) rfl ?_
   clear h a w; intro a w h
   refine wv h (r_move h rfl) rfl ?_
   clear h a w; intro a w h
   refine wnil (c_then ?_)
   refine c_block ?_
   refine c_loopX h (X := Nat) (fun i => [(3, .pointer (some ⟨b3, 0, none⟩)), (10, v), (11, .int .i64 (l.length : Int)), (12, .int .i64 (i : Int))]) (fun _ => Blk b3 (.cells ⟨cellsE e⟩ t_api_Elem) :: F) (fun i => i ≤ l.length ∧ (l.drop i).any (hit7 e) = l.any (hit7 e)) (fun i => l.length - i) 0 (h.keep [3, 10, 11, 12]) ⟨Nat.zero_le _, rfl⟩ ?_
   clear h a w; intro i a w hx h
   obtain ⟨hx1, hx2⟩ := hx
   as_aux_lemma =>
    refine c_seq (c_region ?_)
    refine wv h (r_bin h rfl rfl (B.lss_int)) rfl ?_
    clear h a w; intro a w h
    refine wnil (c_then ?_)
    refine c_seq ?_
    first
     | refine c_condD h rfl (fun ht2 => ?_) (fun ht2 => ?_)
     | refine c_condP h rfl (by first | (simp only [Bool.and_eq_true, Bool.or_eq_true, Bool.not_eq_true', decide_eq_true_eq, decide_eq_false_iff_not, ne_eq, Bool.not_eq_eq_eq_not, Bool.not_true, beq_iff_eq, bne_iff_ne]; exact Iff.rfl) | exact Iff.rfl) (fun ht2 => ?_) (fun ht2 => ?_)
    ·
     obtain ⟨x, hex⟩ := get_some (l := l) (i := i) (by omega)
     rw [any_drop hex] at hx2
     refine c_skip ?_
     refine c_then ?_
     refine c_seq ?_
     refine c_block ?_
     refine c_seq (c_region ?_)
     refine wv h (r_elP h rfl rfl K.u_api_Chart K.sz_api_Elem (by first | exact Views.own 0 rfl | exact Views.own 1 rfl | exact Views.own 2 rfl | exact Views.own 3 rfl | exact Views.own 4 rfl | exact Views.own 5 rfl | assumption | exact Views.of_drop 1 (by assumption) | exact Views.of_drop 2 (by assumption) | exact Views.of_drop 3 (by assumption) | exact Views.of_drop 4 (by assumption) | exact Views.of_drop 5 (by assumption) | exact Views.of_drop 6 (by assumption) | exact Views.of_drop 7 (by assumption) | exact Views.of_drop 8 (by assumption) | exact Views.of_drop 9 (by assumption) | exact Views.of_drop 10 (by assumption) | exact Views.of_drop 11 (by assumption) | exact Views.of_drop 12 (by assumption)) (by first | omega | (simp; done)) (by first | omega | (simp only [List.length_cons, List.length_nil]; omega) | (simp; done) | (simp; omega))) rfl ?_
     clear h a w; intro a w h
     first
          | (refine wv h (r_elM h rfl K.u_api_Elem rfl K.sz_api_Elem rfl (by first | exact Views.own 0 rfl | exact Views.own 1 rfl | exact Views.own 2 rfl | exact Views.own 3 rfl | exact Views.own 4 rfl | exact Views.own 5 rfl | assumption | exact Views.of_drop 1 (by assumption) | exact Views.of_drop 2 (by assumption) | exact Views.of_drop 3 (by assumption) | exact Views.of_drop 4 (by assumption) | exact Views.of_drop 5 (by assumption) | exact Views.of_drop 6 (by assumption) | exact Views.of_drop 7 (by assumption) | exact Views.of_drop 8 (by assumption) | exact Views.of_drop 9 (by assumption) | exact Views.of_drop 10 (by assumption) | exact Views.of_drop 11 (by assumption) | exact Views.of_drop 12 (by assumption)) (by assumption)) rfl ?_)
          | (refine wv h (r_elMd h rfl K.u_api_Elem rfl K.sz_api_Elem rfl (by first | exact Views.own 0 rfl | exact Views.own 1 rfl | exact Views.own 2 rfl | exact Views.own 3 rfl | exact Views.own 4 rfl | exact Views.own 5 rfl | assumption | exact Views.of_drop 1 (by assumption) | exact Views.of_drop 2 (by assumption) | exact Views.of_drop 3 (by assumption) | exact Views.of_drop 4 (by assumption) | exact Views.of_drop 5 (by assumption) | exact Views.of_drop 6 (by assumption) | exact Views.of_drop 7 (by assumption) | exact Views.of_drop 8 (by assumption) | exact Views.of_drop 9 (by assumption) | exact Views.of_drop 10 (by assumption) | exact Views.of_drop 11 (by assumption) | exact Views.of_drop 12 (by assumption)) (by first | omega | (simp only [List.length_cons, List.length_nil]; omega) | (simp; done) | (simp; omega))) rfl ?_)
     clear h a w; intro a w h
     refine wl rfl (op_alloc h K.z_api_Elem rfl ?_)
     clear h a w; intro b6 a w h
     first
          | (refine wl rfl (op_stA h rfl rfl K.sz_api_Elem (by first | exact Row.len _ | rfl | assumption | (simp; done) | (simp; omega) | omega) (by first | exact Row.one _ | exact bs_one _ | assumption | (simp; done) | (simp; (repeat' apply And.intro) <;> first | rfl | assumption)) 0 rfl (by first | rfl | assumption | (simp; done) | (simp; omega) | omega) ?_))
          | (refine wl rfl (op_stA h rfl rfl K.sz_api_Elem (by first | exact Row.len _ | rfl | assumption | (simp; done) | (simp; omega) | omega) (by first | exact Row.one _ | exact bs_one _ | assumption | (simp; done) | (simp; (repeat' apply And.intro) <;> first | rfl | assumption)) 1 rfl (by first | rfl | assumption | (simp; done) | (simp; omega) | omega) ?_))
          | (refine wl rfl (op_stA h rfl rfl K.sz_api_Elem (by first | exact Row.len _ | rfl | assumption | (simp; done) | (simp; omega) | omega) (by first | exact Row.one _ | exact bs_one _ | assumption | (simp; done) | (simp; (repeat' apply And.intro) <;> first | rfl | assumption)) 2 rfl (by first | rfl | assumption | (simp; done) | (simp; omega) | omega) ?_))
          | (refine wl rfl (op_stA h rfl rfl K.sz_api_Elem (by first | exact Row.len _ | rfl | assumption | (simp; done) | (simp; omega) | omega) (by first | exact Row.one _ | exact bs_one _ | assumption | (simp; done) | (simp; (repeat' apply And.intro) <;> first | rfl | assumption)) 3 rfl (by first | rfl | assumption | (simp; done) | (simp; omega) | omega) ?_))
          | (refine wl rfl (op_stA h rfl rfl K.sz_api_Elem (by first | exact Row.len _ | rfl | assumption | (simp; done) | (simp; omega) | omega) (by first | exact Row.one _ | exact bs_one _ | assumption | (simp; done) | (simp; (repeat' apply And.intro) <;> first | rfl | assumption)) 4 rfl (by first | rfl | assumption | (simp; done) | (simp; omega) | omega) ?_))
          | (refine wl rfl (op_stA h rfl rfl K.sz_api_Elem (by first | exact Row.len _ | rfl | assumption | (simp; done) | (simp; omega) | omega) (by first | exact Row.one _ | exact bs_one _ | assumption | (simp; done) | (simp; (repeat' apply And.intro) <;> first | rfl | assumption)) 5 rfl (by first | rfl | assumption | (simp; done) | (simp; omega) | omega) ?_))
     clear h a w; intro a w h
     (try simp only [List.set_cons_zero, List.set_cons_succ] at h)
     refine wnil (c_then ?_)
     refine c_seq (c_region ?_)
     refine wv h (r_fieldAddr0 h rfl K.u_api_Elem rfl K.sz_int rfl rfl) rfl ?_
     clear h a w; intro a w h
     first
          | (refine wv h (r_ldN h rfl K.u_int rfl 0 rfl rfl) rfl ?_)
          | (refine wv h (r_ldN h rfl K.u_int rfl 1 rfl rfl) rfl ?_)
          | (refine wv h (r_ldN h rfl K.u_int rfl 2 rfl rfl) rfl ?_)
          | (refine wv h (r_ldN h rfl K.u_int rfl 3 rfl rfl) rfl ?_)
          | (refine wv h (r_ldN h rfl K.u_int rfl 4 rfl rfl) rfl ?_)
          | (refine wv h (r_ldN h rfl K.u_int rfl 5 rfl rfl) rfl ?_)
          | (refine wv h (r_ldN h rfl K.u_int rfl 6 rfl rfl) rfl ?_)
          | (refine wv h (r_ldC (o := 0) h rfl K.u_int rfl 0 rfl) rfl ?_)
          | (refine wv h (r_ldC (o := 0) h rfl K.u_int rfl 1 rfl) rfl ?_)
          | (refine wv h (r_ldC (o := 0) h rfl K.u_int rfl 2 rfl) rfl ?_)
          | (refine wv h (r_ldC (o := 0) h rfl K.u_int rfl 3 rfl) rfl ?_)
          | (refine wv h (r_ldC (o := 0) h rfl K.u_int rfl 4 rfl) rfl ?_)
          | (refine wv h (r_ldC (o := 0) h rfl K.u_int rfl 5 rfl) rfl ?_)
          | (refine wv h (r_ldC (o := 0) h rfl K.u_int rfl 6 rfl) rfl ?_)
          | (refine wv h (r_load h rfl K.u_int rfl 0 rfl rfl) rfl ?_)
          | (refine wv h (r_load h rfl K.u_int rfl 1 rfl rfl) rfl ?_)
          | (refine wv h (r_load h rfl K.u_int rfl 2 rfl rfl) rfl ?_)
          | (refine wv h (r_load h rfl K.u_int rfl 3 rfl rfl) rfl ?_)
          | (refine wv h (r_load h rfl K.u_int rfl 4 rfl rfl) rfl ?_)
          | (refine wv h (r_load h rfl K.u_int rfl 5 rfl rfl) rfl ?_)
          | (refine wv h (r_load1 h rfl K.u_int rfl (by assumption)) rfl ?_)
     clear h a w; intro a w h
     refine wv h (r_fieldAddr0 h rfl K.u_api_Elem rfl K.sz_int rfl rfl) rfl ?_
     clear h a w; intro a w h
     first
          | (refine wv h (r_ldN h rfl K.u_int rfl 0 rfl rfl) rfl ?_)
          | (refine wv h (r_ldN h rfl K.u_int rfl 1 rfl rfl) rfl ?_)
          | (refine wv h (r_ldN h rfl K.u_int rfl 2 rfl rfl) rfl ?_)
          | (refine wv h (r_ldN h rfl K.u_int rfl 3 rfl rfl) rfl ?_)
          | (refine wv h (r_ldN h rfl K.u_int rfl 4 rfl rfl) rfl ?_)
          | (refine wv h (r_ldN h rfl K.u_int rfl 5 rfl rfl) rfl ?_)
          | (refine wv h (r_ldN h rfl K.u_int rfl 6 rfl rfl) rfl ?_)
          | (refine wv h (r_ldC (o := 0) h rfl K.u_int rfl 0 rfl) rfl ?_)
          | (refine wv h (r_ldC (o := 0) h rfl K.u_int rfl 1 rfl) rfl ?_)
          | (refine wv h (r_ldC (o := 0) h rfl K.u_int rfl 2 rfl) rfl ?_)
          | (refine wv h (r_ldC (o := 0) h rfl K.u_int rfl 3 rfl) rfl ?_)
          | (refine wv h (r_ldC (o := 0) h rfl K.u_int rfl 4 rfl) rfl ?_)
          | (refine wv h (r_ldC (o := 0) h rfl K.u_int rfl 5 rfl) rfl ?_)
          | (refine wv h (r_ldC (o := 0) h rfl K.u_int rfl 6 rfl) rfl ?_)
          | (refine wv h (r_load h rfl K.u_int rfl 0 rfl rfl) rfl ?_)
          | (refine wv h (r_load h rfl K.u_int rfl 1 rfl rfl) rfl ?_)
          | (refine wv h (r_load h rfl K.u_int rfl 2 rfl rfl) rfl ?_)
          | (refine wv h (r_load h rfl K.u_int rfl 3 rfl rfl) rfl ?_)
          | (refine wv h (r_load h rfl K.u_int rfl 4 rfl rfl) rfl ?_)
          | (refine wv h (r_load h rfl K.u_int rfl 5 rfl rfl) rfl ?_)
          | (refine wv h (r_load1 h rfl K.u_int rfl (by assumption)) rfl ?_)
     clear h a w; intro a w h
     refine wv h (r_bin h rfl rfl (B.neq_int)) rfl ?_
     clear h a w; intro a w h
     refine wv h (r_move h rfl) rfl ?_
     clear h a w; intro a w h
     refine wvG h (by first | exact .t rfl | exact .f rfl | exact .gt rfl | exact .gf rfl) (fun hg => by (try simp only [↓gval_on hg, ↓gval_and hg] at h); (have hg2 := hg; (try simp only [Bool.and_eq_true, Bool.or_eq_true, Bool.not_eq_true', decide_eq_true_eq, decide_eq_false_iff_not] at hg2)); first | exact r_fieldAddr h 1 rfl K.u_api_Elem rfl K.sz_uint8 rfl rfl) rfl ?_
     clear h a w; intro a w h
     refine wvG h (by first | exact .t rfl | exact .f rfl | exact .gt rfl | exact .gf rfl) (fun hg => by (try simp only [↓gval_on hg, ↓gval_and hg] at h); (have hg2 := hg; (try simp only [Bool.and_eq_true, Bool.or_eq_true, Bool.not_eq_true', decide_eq_true_eq, decide_eq_false_iff_not] at hg2)); first | exact r_ldN h rfl K.u_uint8 rfl 0 rfl rfl | exact r_ldN h rfl K.u_uint8 rfl 1 rfl rfl | exact r_ldN h rfl K.u_uint8 rfl 2 rfl rfl | exact r_ldN h rfl K.u_uint8 rfl 3 rfl rfl | exact r_ldN h rfl K.u_uint8 rfl 4 rfl rfl | exact r_ldN h rfl K.u_uint8 rfl 5 rfl rfl | exact r_ldN h rfl K.u_uint8 rfl 6 rfl rfl | exact r_ldC (o := 1) h rfl K.u_uint8 rfl 0 rfl | exact r_ldC (o := 1) h rfl K.u_uint8 rfl 1 rfl | exact r_ldC (o := 1) h rfl K.u_uint8 rfl 2 rfl | exact r_ldC (o := 1) h rfl K.u_uint8 rfl 3 rfl | exact r_ldC (o := 1) h rfl K.u_uint8 rfl 4 rfl | exact r_ldC (o := 1) h rfl K.u_uint8 rfl 5 rfl | exact r_ldC (o := 1) h rfl K.u_uint8 rfl 6 rfl | exact r_load h rfl K.u_uint8 rfl 0 rfl rfl | exact r_load h rfl K.u_uint8 rfl 1 rfl rfl | exact r_load h rfl K.u_uint8 rfl 2 rfl rfl | exact r_load h rfl K.u_uint8 rfl 3 rfl rfl | exact r_load h rfl K.u_uint8 rfl 4 rfl rfl | exact r_load h rfl K.u_uint8 rfl 5 rfl rfl | exact r_load1 h rfl K.u_uint8 rfl (by assumption)) rfl ?_
     clear h a w; intro a w h
     refine wvG h (by first | exact .t rfl | exact .f rfl | exact .gt rfl | exact .gf rfl) (fun hg => by (try simp only [↓gval_on hg, ↓gval_and hg] at h); (have hg2 := hg; (try simp only [Bool.and_eq_true, Bool.or_eq_true, Bool.not_eq_true', decide_eq_true_eq, decide_eq_false_iff_not] at hg2)); first | exact r_bin h rfl rfl (B.eql_u8 (y := 5))) rfl ?_
     clear h a w; intro a w h
     first
          | (refine wv h (r_pickA h rfl rfl rfl) rfl ?_)
          | (refine wv h (r_pickO h rfl rfl rfl) rfl ?_)
          | (refine wv h (r_pick_true h rfl rfl) rfl ?_)
          | (refine wv h (r_pick_false h rfl rfl) rfl ?_)
          | (refine wv h (r_pick h rfl rfl rfl) rfl ?_)
     clear h a w; intro a w h
     refine wv h (r_move h rfl) rfl ?_
     clear h a w; intro a w h
     refine wvG h (by first | exact .t rfl | exact .f rfl | exact .gt rfl | exact .gf rfl) (fun hg => by (try simp only [↓gval_on hg, ↓gval_and hg] at h); (have hg2 := hg; (try simp only [Bool.and_eq_true, Bool.or_eq_true, Bool.not_eq_true', decide_eq_true_eq, decide_eq_false_iff_not] at hg2)); first | exact r_fieldAddr h 5 rfl K.u_api_Elem rfl K.sz_int rfl rfl) rfl ?_
     clear h a w; intro a w h
     refine wvG h (by first | exact .t rfl | exact .f rfl | exact .gt rfl | exact .gf rfl) (fun hg => by (try simp only [↓gval_on hg, ↓gval_and hg] at h); (have hg2 := hg; (try simp only [Bool.and_eq_true, Bool.or_eq_true, Bool.not_eq_true', decide_eq_true_eq, decide_eq_false_iff_not] at hg2)); first | exact r_ldN h rfl K.u_int rfl 0 rfl rfl | exact r_ldN h rfl K.u_int rfl 1 rfl rfl | exact r_ldN h rfl K.u_int rfl 2 rfl rfl | exact r_ldN h rfl K.u_int rfl 3 rfl rfl | exact r_ldN h rfl K.u_int rfl 4 rfl rfl | exact r_ldN h rfl K.u_int rfl 5 rfl rfl | exact r_ldN h rfl K.u_int rfl 6 rfl rfl | exact r_ldC (o := 5) h rfl K.u_int rfl 0 rfl | exact r_ldC (o := 5) h rfl K.u_int rfl 1 rfl | exact r_ldC (o := 5) h rfl K.u_int rfl 2 rfl | exact r_ldC (o := 5) h rfl K.u_int rfl 3 rfl | exact r_ldC (o := 5) h rfl K.u_int rfl 4 rfl | exact r_ldC (o := 5) h rfl K.u_int rfl 5 rfl | exact r_ldC (o := 5) h rfl K.u_int rfl 6 rfl | exact r_load h rfl K.u_int rfl 0 rfl rfl | exact r_load h rfl K.u_int rfl 1 rfl rfl | exact r_load h rfl K.u_int rfl 2 rfl rfl | exact r_load h rfl K.u_int rfl 3 rfl rfl | exact r_load h rfl K.u_int rfl 4 rfl rfl | exact r_load h rfl K.u_int rfl 5 rfl rfl | exact r_load1 h rfl K.u_int rfl (by assumption)) rfl ?_
     clear h a w; intro a w h
     refine wvG h (by first | exact .t rfl | exact .f rfl | exact .gt rfl | exact .gf rfl) (fun hg => by (try simp only [↓gval_on hg, ↓gval_and hg] at h); (have hg2 := hg; (try simp only [Bool.and_eq_true, Bool.or_eq_true, Bool.not_eq_true', decide_eq_true_eq, decide_eq_false_iff_not] at hg2)); first | exact r_fieldAddr h 5 rfl K.u_api_Elem rfl K.sz_int rfl rfl) rfl ?_
     clear h a w; intro a w h
     refine wvG h (by first | exact .t rfl | exact .f rfl | exact .gt rfl | exact .gf rfl) (fun hg => by (try simp only [↓gval_on hg, ↓gval_and hg] at h); (have hg2 := hg; (try simp only [Bool.and_eq_true, Bool.or_eq_true, Bool.not_eq_true', decide_eq_true_eq, decide_eq_false_iff_not] at hg2)); first | exact r_ldN h rfl K.u_int rfl 0 rfl rfl | exact r_ldN h rfl K.u_int rfl 1 rfl rfl | exact r_ldN h rfl K.u_int rfl 2 rfl rfl | exact r_ldN h rfl K.u_int rfl 3 rfl rfl | exact r_ldN h rfl K.u_int rfl 4 rfl rfl | exact r_ldN h rfl K.u_int rfl 5 rfl rfl | exact r_ldN h rfl K.u_int rfl 6 rfl rfl | exact r_ldC (o := 5) h rfl K.u_int rfl 0 rfl | exact r_ldC (o := 5) h rfl K.u_int rfl 1 rfl | exact r_ldC (o := 5) h rfl K.u_int rfl 2 rfl | exact r_ldC (o := 5) h rfl K.u_int rfl 3 rfl | exact r_ldC (o := 5) h rfl K.u_int rfl 4 rfl | exact r_ldC (o := 5) h rfl K.u_int rfl 5 rfl | exact r_ldC (o := 5) h rfl K.u_int rfl 6 rfl | exact r_load h rfl K.u_int rfl 0 rfl rfl | exact r_load h rfl K.u_int rfl 1 rfl rfl | exact r_load h rfl K.u_int rfl 2 rfl rfl | exact r_load h rfl K.u_int rfl 3 rfl rfl | exact r_load h rfl K.u_int rfl 4 rfl rfl | exact r_load h rfl K.u_int rfl 5 rfl rfl | exact r_load1 h rfl K.u_int rfl (by assumption)) rfl ?_
     clear h a w; intro a w h
     refine wvG h (by first | exact .t rfl | exact .f rfl | exact .gt rfl | exact .gf rfl) (fun hg => by (try simp only [↓gval_on hg, ↓gval_and hg] at h); (have hg2 := hg; (try simp only [Bool.and_eq_true, Bool.or_eq_true, Bool.not_eq_true', decide_eq_true_eq, decide_eq_false_iff_not] at hg2)); first | exact r_bin h rfl rfl (B.eql_int)) rfl ?_
     clear h a w; intro a w h
     first
          | (refine wv h (r_pickA h rfl rfl rfl) rfl ?_)
          | (refine wv h (r_pickO h rfl rfl rfl) rfl ?_)
          | (refine wv h (r_pick_true h rfl rfl) rfl ?_)
          | (refine wv h (r_pick_false h rfl rfl) rfl ?_)
          | (refine wv h (r_pick h rfl rfl rfl) rfl ?_)
     clear h a w; intro a w h
     refine wv h (r_move h rfl) rfl ?_
     clear h a w; intro a w h
     refine wvG h (by first | exact .t rfl | exact .f rfl | exact .gt rfl | exact .gf rfl) (fun hg => by (try simp only [↓gval_on hg, ↓gval_and hg] at h); (have hg2 := hg; (try simp only [Bool.and_eq_true, Bool.or_eq_true, Bool.not_eq_true', decide_eq_true_eq, decide_eq_false_iff_not] at hg2)); first | exact r_fieldAddr h 3 rfl K.u_api_Elem rfl K.sz_int rfl rfl) rfl ?_
     clear h a w; intro a w h
     refine wvG h (by first | exact .t rfl | exact .f rfl | exact .gt rfl | exact .gf rfl) (fun hg => by (try simp only [↓gval_on hg, ↓gval_and hg] at h); (have hg2 := hg; (try simp only [Bool.and_eq_true, Bool.or_eq_true, Bool.not_eq_true', decide_eq_true_eq, decide_eq_false_iff_not] at hg2)); first | exact r_ldN h rfl K.u_int rfl 0 rfl rfl | exact r_ldN h rfl K.u_int rfl 1 rfl rfl | exact r_ldN h rfl K.u_int rfl 2 rfl rfl | exact r_ldN h rfl K.u_int rfl 3 rfl rfl | exact r_ldN h rfl K.u_int rfl 4 rfl rfl | exact r_ldN h rfl K.u_int rfl 5 rfl rfl | exact r_ldN h rfl K.u_int rfl 6 rfl rfl | exact r_ldC (o := 3) h rfl K.u_int rfl 0 rfl | exact r_ldC (o := 3) h rfl K.u_int rfl 1 rfl | exact r_ldC (o := 3) h rfl K.u_int rfl 2 rfl | exact r_ldC (o := 3) h rfl K.u_int rfl 3 rfl | exact r_ldC (o := 3) h rfl K.u_int rfl 4 rfl | exact r_ldC (o := 3) h rfl K.u_int rfl 5 rfl | exact r_ldC (o := 3) h rfl K.u_int rfl 6 rfl | exact r_load h rfl K.u_int rfl 0 rfl rfl | exact r_load h rfl K.u_int rfl 1 rfl rfl | exact r_load h rfl K.u_int rfl 2 rfl rfl | exact r_load h rfl K.u_int rfl 3 rfl rfl | exact r_load h rfl K.u_int rfl 4 rfl rfl | exact r_load h rfl K.u_int rfl 5 rfl rfl | exact r_load1 h rfl K.u_int rfl (by assumption)) rfl ?_
     clear h a w; intro a w h
     refine wvG h (by first | exact .t rfl | exact .f rfl | exact .gt rfl | exact .gf rfl) (fun hg => by (try simp only [↓gval_on hg, ↓gval_and hg] at h); (have hg2 := hg; (try simp only [Bool.and_eq_true, Bool.or_eq_true, Bool.not_eq_true', decide_eq_true_eq, decide_eq_false_iff_not] at hg2)); first | exact r_fieldAddr h 3 rfl K.u_api_Elem rfl K.sz_int rfl rfl) rfl ?_
     clear h a w; intro a w h
     refine wvG h (by first | exact .t rfl | exact .f rfl | exact .gt rfl | exact .gf rfl) (fun hg => by (try simp only [↓gval_on hg, ↓gval_and hg] at h); (have hg2 := hg; (try simp only [Bool.and_eq_true, Bool.or_eq_true, Bool.not_eq_true', decide_eq_true_eq, decide_eq_false_iff_not] at hg2)); first | exact r_ldN h rfl K.u_int rfl 0 rfl rfl | exact r_ldN h rfl K.u_int rfl 1 rfl rfl | exact r_ldN h rfl K.u_int rfl 2 rfl rfl | exact r_ldN h rfl K.u_int rfl 3 rfl rfl | exact r_ldN h rfl K.u_int rfl 4 rfl rfl | exact r_ldN h rfl K.u_int rfl 5 rfl rfl | exact r_ldN h rfl K.u_int rfl 6 rfl rfl | exact r_ldC (o := 3) h rfl K.u_int rfl 0 rfl | exact r_ldC (o := 3) h rfl K.u_int rfl 1 rfl | exact r_ldC (o := 3) h rfl K.u_int rfl 2 rfl | exact r_ldC (o := 3) h rfl K.u_int rfl 3 rfl | exact r_ldC (o := 3) h rfl K.u_int rfl 4 rfl | exact r_ldC (o := 3) h rfl K.u_int rfl 5 rfl | exact r_ldC (o := 3) h rfl K.u_int rfl 6 rfl | exact r_load h rfl K.u_int rfl 0 rfl rfl | exact r_load h rfl K.u_int rfl 1 rfl rfl | exact r_load h rfl K.u_int rfl 2 rfl rfl | exact r_load h rfl K.u_int rfl 3 rfl rfl | exact r_load h rfl K.u_int rfl 4 rfl rfl | exact r_load h rfl K.u_int rfl 5 rfl rfl | exact r_load1 h rfl K.u_int rfl (by assumption)) rfl ?_
     clear h a w; intro a w h
     refine wvG h (by first | exact .t rfl | exact .f rfl | exact .gt rfl | exact .gf rfl) (fun hg => by (try simp only [↓gval_on hg, ↓gval_and hg] at h); (have hg2 := hg; (try simp only [Bool.and_eq_true, Bool.or_eq_true, Bool.not_eq_true', decide_eq_true_eq, decide_eq_false_iff_not] at hg2)); first | exact r_bin h rfl rfl (B.eql_int)) rfl ?_
     clear h a w; intro a w h
     first
          | (refine wv h (r_pickA h rfl rfl rfl) rfl ?_)
          | (refine wv h (r_pickO h rfl rfl rfl) rfl ?_)
          | (refine wv h (r_pick_true h rfl rfl) rfl ?_)
          | (refine wv h (r_pick_false h rfl rfl) rfl ?_)
          | (refine wv h (r_pick h rfl rfl rfl) rfl ?_)
     clear h a w; intro a w h
     refine wnil (c_then ?_)
     refine c_cond h rfl (fun ht3 => ?_) (fun ht3 => ?_)
     ·
      rw [hit7_eq hn] at ht3
      as_aux_lemma =>
       refine c_seq (c_region ?_)
       refine wv h (r_assign h rfl) rfl ?_
       clear h a w; intro a w h
       refine wnil (c_then ?_)
       refine c_ret ?_
       exact ret1 h rfl rfl ⟨(), by rw [brk7, ← hx2, ht3]; rfl, h.2.drop 2, trivial⟩
     ·
      rw [hit7_eq hn] at ht3
      refine c_skip ?_
      refine b_normal ?_
      refine c_then ?_
      refine c_region ?_
      refine wv h (r_bin h rfl rfl (B.add_i64 (by omega) (by omega))) rfl ?_
      clear h a w; intro a w h
      refine wv h (r_move h rfl) rfl ?_
      clear h a w; intro a w h
      refine wnil ?_
      rw [ht3, Bool.false_or] at hx2
      exact ⟨i + 1, (h.drop 1).keep [3, 10, 11, 12], ⟨by omega, hx2⟩, by show l.length - (i + 1) < l.length - i; omega⟩
    ·
     obtain rfl : i = l.length := by omega
     rw [List.drop_length, List.any_nil] at hx2
     refine c_exit ?_
     refine e_then ?_
     refine e_then ?_
     refine e_here ?_
     refine c_then ?_
     refine c_seq (c_region ?_)
     refine wv h (r_assign h rfl) rfl ?_
     clear h a w; intro a w h
     refine wnil (c_then ?_)
     refine c_ret ?_
     exact ret1 h rfl rfl ⟨(), by rw [brk7, ← hx2], h.2.drop 1, trivial⟩

theorem brk8_eq (l : List El) (e : El) : brk8 l e = ((l.filter fun x => decide (x.parent = e.id)).any (fun x => decide (x.kind = 2)) && (l.filter fun x => decide (x.parent = e.id)).any (fun x => decide (x.kind ≠ 2))) := by
  rw [brk8, List.any_filter, List.any_filter]
theorem rules_mixed (s w : World) (v : Value) (l : List El) (e : El) (F : List HItem) (hr : Rises l) (hl : l.length ≤ 1000) (hv : Views F 10 v l.length (l.flatMap cellsE)) (hs : Sat s w F) :
    Calls P n_rules_mixed #[v, .agg ⟨cellsE e⟩] w (Ret s (fun _ : Unit => .bool (brk8 l e)) (fun _ => F) (fun _ => True)) := by
  refine enter K.fn_rules_mixed rfl K.nt_rules_mixed rfl hs ?_
  clear hs w; intro a w h
  refine c_seq (c_region ?_)
  refine wl rfl (op_box h rfl rfl ?_)
  clear h a w; intro b3 a w h
  try simp only [Value.cells] at h
  refine wv h (r_assign h rfl) rfl ?_
  clear h a w; intro a w h
  refine wnil (c_then ?_)
  refine c_seq (c_region ?_)
  refine wv h (r_assign h rfl) rfl ?_
  clear h a w; intro a w h
  refine wv h (r_assign h rfl) rfl ?_
  clear h a w; intro a w h
  refine wnil (c_then ?_)
  refine c_seq ?_
  refine c_seq (c_region ?_)
  refine wv h (r_move h rfl) rfl ?_
  clear h a w; intro a w h
  refine wv h (r_fieldAddr0 h rfl K.u_api_Elem rfl K.sz_int rfl rfl) rfl ?_
  clear h a w; intro a w h
  first
    | (refine wv h (r_ldN h rfl K.u_int rfl 0 rfl rfl) rfl ?_)
    | (refine wv h (r_ldN h rfl K.u_int rfl 1 rfl rfl) rfl ?_)
    | (refine wv h (r_ldN h rfl K.u_int rfl 2 rfl rfl) rfl ?_)
    | (refine wv h (r_ldN h rfl K.u_int rfl 3 rfl rfl) rfl ?_)
    | (refine wv h (r_ldN h rfl K.u_int rfl 4 rfl rfl) rfl ?_)
    | (refine wv h (r_ldN h rfl K.u_int rfl 5 rfl rfl) rfl ?_)
    | (refine wv h (r_ldN h rfl K.u_int rfl 6 rfl rfl) rfl ?_)
    | (refine wv h (r_ldC (o := 0) h rfl K.u_int rfl 0 rfl) rfl ?_)
    | (refine wv h (r_ldC (o := 0) h rfl K.u_int rfl 1 rfl) rfl ?_)
    | (refine wv h (r_ldC (o := 0) h rfl K.u_int rfl 2 rfl) rfl ?_)
    | (refine wv h (r_ldC (o := 0) h rfl K.u_int rfl 3 rfl) rfl ?_)
    | (refine wv h (r_ldC (o := 0) h rfl K.u_int rfl 4 rfl) rfl ?_)
    | (refine wv h (r_ldC (o := 0) h rfl K.u_int rfl 5 rfl) rfl ?_)
    | (refine wv h (r_ldC (o := 0) h rfl K.u_int rfl 6 rfl) rfl ?_)
    | (refine wv h (r_load h rfl K.u_int rfl 0 rfl rfl) rfl ?_)
    | (refine wv h (r_load h rfl K.u_int rfl 1 rfl rfl) rfl ?_)
    | (refine wv h (r_load h rfl K.u_int rfl 2 rfl rfl) rfl ?_)
    | (refine wv h (r_load h rfl K.u_int rfl 3 rfl rfl) rfl ?_)
    | (refine wv h (r_load h rfl K.u_int rfl 4 rfl rfl) rfl ?_)
    | (refine wv h (r_load h rfl K.u_int rfl 5 rfl rfl) rfl ?_)
    | (refine wv h (r_load1 h rfl K.u_int rfl (by assumption)) rfl ?_)
  clear h a w; intro a w h
  refine wl rfl (op_call h rfl K.go_chart_Children (chart_Children s _ v l e.id _ hl (by first | exact Views.own 0 rfl | exact Views.own 1 rfl | exact Views.own 2 rfl | exact Views.own 3 rfl | exact Views.own 4 rfl | exact Views.own 5 rfl | assumption | exact Views.of_drop 1 (by assumption) | exact Views.of_drop 2 (by assumption) | exact Views.of_drop 3 (by assumption) | exact Views.of_drop 4 (by assumption) | exact Views.of_drop 5 (by assumption) | exact Views.of_drop 6 (by assumption) | exact Views.of_drop 7 (by assumption) | exact Views.of_drop 8 (by assumption) | exact Views.of_drop 9 (by assumption) | exact Views.of_drop 10 (by assumption) | exact Views.of_drop 11 (by assumption) | exact Views.of_drop 12 (by assumption)) h.2) rfl ?_)
  clear h a w; intro v14 a w hx h
  (try simp only [List.set_cons_zero, List.set_cons_succ] at h)
  obtain ⟨cs, hcs⟩ : ∃ cs, cs = l.filter fun x => decide (x.parent = e.id) := ⟨_, rfl⟩
  have hb := brk8_eq l e
  rw [← hcs] at h hb
  have hcl : cs.length ≤ 1000 := by rw [hcs]; exact Nat.le_trans (List.length_filter_le _ _) hl
  have hfd : ∀ x ∈ cs, findE l x.id = some x := by
    intro x hx
    rw [hcs, List.mem_filter] at hx
    obtain ⟨i, hi, rfl⟩ := List.mem_iff_getElem.1 hx.1
    exact findE_at hr (i := i) (by simp)
  clear hcs
  refine wv h (r_lenV h rfl K.u_S_int (by first | exact Views.own 0 rfl | exact Views.own 1 rfl | exact Views.own 2 rfl | exact Views.own 3 rfl | exact Views.own 4 rfl | exact Views.own 5 rfl | assumption | exact Views.of_drop 1 (by assumption) | exact Views.of_drop 2 (by assumption) | exact Views.of_drop 3 (by assumption) | exact Views.of_drop 4 (by assumption) | exact Views.of_drop 5 (by assumption) | exact Views.of_drop 6 (by assumption) | exact Views.of_drop 7 (by assumption) | exact Views.of_drop 8 (by assumption) | exact Views.of_drop 9 (by assumption) | exact Views.of_drop 10 (by assumption) | exact Views.of_drop 11 (by assumption) | exact Views.of_drop 12 (by assumption))) rfl ?_
  clear h a w; intro a w h
  refine wv h (r_move h rfl) rfl ?_
  clear h a w; intro a w h
  refine wnil (c_then ?_)
  refine c_block ?_
  refine c_loopX h (X := Nat × Bool × Bool) (fun x => [(0, v), (5, .bool x.2.1), (6, .bool x.2.2), (14, v14), (15, .int .i64 (cs.length : Int)), (16, .int .i64 (x.1 : Int))]) (fun _ => OwnL (Value.int .i64) v14 (cs.map El.id) :: Blk b3 (.cells ⟨cellsE e⟩ t_api_Elem) :: F)
    (fun x => x.1 ≤ cs.length ∧ (x.2.1 || (cs.drop x.1).any (fun x => decide (x.kind = 2))) = cs.any (fun x => decide (x.kind = 2)) ∧ (x.2.2 || (cs.drop x.1).any (fun x => decide (x.kind ≠ 2))) = cs.any (fun x => decide (x.kind ≠ 2))) (fun x => cs.length - x.1) (0, false, false) (by rw [List.length_map] at h; exact h.keep [0, 5, 6, 14, 15, 16]) ⟨Nat.zero_le _, rfl, rfl⟩ ?_
  clear h a w; intro x a w hx h
  obtain ⟨i, rg, ot⟩ := x
  obtain ⟨hx1, hx2, hx3⟩ := hx
  dsimp only at hx1 hx2 hx3 h
  as_aux_lemma =>
   refine c_seq (c_region ?_)
   refine wv h (r_bin h rfl rfl (B.lss_int)) rfl ?_
   clear h a w; intro a w h
   refine wnil (c_then ?_)
   refine c_seq ?_
   first
    | refine c_condD h rfl (fun ht1 => ?_) (fun ht1 => ?_)
    | refine c_condP h rfl (by first | (simp only [Bool.and_eq_true, Bool.or_eq_true, Bool.not_eq_true', decide_eq_true_eq, decide_eq_false_iff_not, ne_eq, Bool.not_eq_eq_eq_not, Bool.not_true, beq_iff_eq, bne_iff_ne]; exact Iff.rfl) | exact Iff.rfl) (fun ht1 => ?_) (fun ht1 => ?_)
   ·
    obtain ⟨ch, hex⟩ := get_some (l := cs) (i := i) (by omega)
    rw [any_drop hex] at hx2 hx3
    have hid : (cs.map El.id).getD i 0 = ch.id := by rw [List.getD_eq_getElem?_getD, List.getElem?_map, hex]; rfl
    have hd : findD l ch.id = ch := by rw [findD, hfd ch (List.mem_of_getElem? hex)]; rfl
    have hlm : (cs.map El.id).length = cs.length := List.length_map _
    refine c_skip ?_
    refine c_then ?_
    refine c_seq ?_
    refine c_block ?_
    refine c_seq (c_region ?_)
    refine wv h (r_elP h rfl rfl K.u_S_int K.sz_int (by first | exact Views.own 0 rfl | exact Views.own 1 rfl | exact Views.own 2 rfl | exact Views.own 3 rfl | exact Views.own 4 rfl | exact Views.own 5 rfl | assumption | exact Views.of_drop 1 (by assumption) | exact Views.of_drop 2 (by assumption) | exact Views.of_drop 3 (by assumption) | exact Views.of_drop 4 (by assumption) | exact Views.of_drop 5 (by assumption) | exact Views.of_drop 6 (by assumption) | exact Views.of_drop 7 (by assumption) | exact Views.of_drop 8 (by assumption) | exact Views.of_drop 9 (by assumption) | exact Views.of_drop 10 (by assumption) | exact Views.of_drop 11 (by assumption) | exact Views.of_drop 12 (by assumption)) (by first | omega | (simp; done)) (by first | omega | (simp only [List.length_cons, List.length_nil]; omega) | (simp; done) | (simp; omega))) rfl ?_
    clear h a w; intro a w h
    refine wv h (r_eli h rfl K.u_int rfl (by first | exact Views.own 0 rfl | exact Views.own 1 rfl | exact Views.own 2 rfl | exact Views.own 3 rfl | exact Views.own 4 rfl | exact Views.own 5 rfl | assumption | exact Views.of_drop 1 (by assumption) | exact Views.of_drop 2 (by assumption) | exact Views.of_drop 3 (by assumption) | exact Views.of_drop 4 (by assumption) | exact Views.of_drop 5 (by assumption) | exact Views.of_drop 6 (by assumption) | exact Views.of_drop 7 (by assumption) | exact Views.of_drop 8 (by assumption) | exact Views.of_drop 9 (by assumption) | exact Views.of_drop 10 (by assumption) | exact Views.of_drop 11 (by assumption) | exact Views.of_drop 12 (by assumption)) (by first | omega | (simp only [List.length_cons, List.length_nil]; omega) | (simp; done) | (simp; omega))) rfl ?_
    clear h a w; intro a w h
    rw [hid] at h
    refine wv h (r_assign h rfl) rfl ?_
    clear h a w; intro a w h
    refine wnil (c_then ?_)
    refine c_seq (c_region ?_)
    refine wv h (r_move h rfl) rfl ?_
    clear h a w; intro a w h
    refine wv h (r_move h rfl) rfl ?_
    clear h a w; intro a w h
    refine wl rfl (op_call h rfl K.go_chart_Find (chart_Find s _ v l ch.id _ hr hl (by first | exact Views.own 0 rfl | exact Views.own 1 rfl | exact Views.own 2 rfl | exact Views.own 3 rfl | exact Views.own 4 rfl | exact Views.own 5 rfl | assumption | exact Views.of_drop 1 (by assumption) | exact Views.of_drop 2 (by assumption) | exact Views.of_drop 3 (by assumption) | exact Views.of_drop 4 (by assumption) | exact Views.of_drop 5 (by assumption) | exact Views.of_drop 6 (by assumption) | exact Views.of_drop 7 (by assumption) | exact Views.of_drop 8 (by assumption) | exact Views.of_drop 9 (by assumption) | exact Views.of_drop 10 (by assumption) | exact Views.of_drop 11 (by assumption) | exact Views.of_drop 12 (by assumption)) h.2) rfl ?_)
    clear h a w; intro x a w hx h
    (try simp only [List.set_cons_zero, List.set_cons_succ] at h)
    rw [hd] at h
    refine wv h (r_move h rfl) rfl ?_
    clear h a w; intro a w h
    refine wv h (r_extractN h rfl rfl) rfl ?_
    clear h a w; intro a w h
    refine wv h (r_extractN h rfl rfl) rfl ?_
    clear h a w; intro a w h
    refine wl rfl (op_alloc h K.z_api_Elem rfl ?_)
    clear h a w; intro b9 a w h
    first
        | (refine wl rfl (op_stA h rfl rfl K.sz_api_Elem (by first | exact Row.len _ | rfl | assumption | (simp; done) | (simp; omega) | omega) (by first | exact Row.one _ | exact bs_one _ | assumption | (simp; done) | (simp; (repeat' apply And.intro) <;> first | rfl | assumption)) 0 rfl (by first | rfl | assumption | (simp; done) | (simp; omega) | omega) ?_))
        | (refine wl rfl (op_stA h rfl rfl K.sz_api_Elem (by first | exact Row.len _ | rfl | assumption | (simp; done) | (simp; omega) | omega) (by first | exact Row.one _ | exact bs_one _ | assumption | (simp; done) | (simp; (repeat' apply And.intro) <;> first | rfl | assumption)) 1 rfl (by first | rfl | assumption | (simp; done) | (simp; omega) | omega) ?_))
        | (refine wl rfl (op_stA h rfl rfl K.sz_api_Elem (by first | exact Row.len _ | rfl | assumption | (simp; done) | (simp; omega) | omega) (by first | exact Row.one _ | exact bs_one _ | assumption | (simp; done) | (simp; (repeat' apply And.intro) <;> first | rfl | assumption)) 2 rfl (by first | rfl | assumption | (simp; done) | (simp; omega) | omega) ?_))
        | (refine wl rfl (op_stA h rfl rfl K.sz_api_Elem (by first | exact Row.len _ | rfl | assumption | (simp; done) | (simp; omega) | omega) (by first | exact Row.one _ | exact bs_one _ | assumption | (simp; done) | (simp; (repeat' apply And.intro) <;> first | rfl | assumption)) 3 rfl (by first | rfl | assumption | (simp; done) | (simp; omega) | omega) ?_))
        | (refine wl rfl (op_stA h rfl rfl K.sz_api_Elem (by first | exact Row.len _ | rfl | assumption | (simp; done) | (simp; omega) | omega) (by first | exact Row.one _ | exact bs_one _ | assumption | (simp; done) | (simp; (repeat' apply And.intro) <;> first | rfl | assumption)) 4 rfl (by first | rfl | assumption | (simp; done) | (simp; omega) | omega) ?_))
        | (refine wl rfl (op_stA h rfl rfl K.sz_api_Elem (by first | exact Row.len _ | rfl | assumption | (simp; done) | (simp; omega) | omega) (by first | exact Row.one _ | exact bs_one _ | assumption | (simp; done) | (simp; (repeat' apply And.intro) <;> first | rfl | assumption)) 5 rfl (by first | rfl | assumption | (simp; done) | (simp; omega) | omega) ?_))
    clear h a w; intro a w h
    (try simp only [List.set_cons_zero, List.set_cons_succ] at h)
    refine wv h (r_assign h rfl) rfl ?_
    clear h a w; intro a w h
    refine wnil (c_then ?_)
    refine c_draw K.mixed (by kernel_rfl) h ?_
    clear h a w; intro a hE
    refine qv hE (fun w hw => r_move ⟨hE, hw⟩ rfl) rfl ?_
    clear hE a; intro a hE
    refine qv hE (fun w hw => r_move ⟨hE, hw⟩ rfl) rfl ?_
    clear hE a; intro a hE
    refine qvG hE (by first | exact .t rfl | exact .f rfl | exact .gt rfl | exact .gf rfl) (fun hg w hw => by (try simp only [↓gval_on hg, ↓gval_and hg] at hE); (have hg2 := hg; (try simp only [Bool.and_eq_true, Bool.or_eq_true, Bool.not_eq_true', decide_eq_true_eq, decide_eq_false_iff_not] at hg2)); first | exact r_fieldAddr ⟨hE, hw⟩ 1 rfl K.u_api_Elem rfl K.sz_uint8 rfl rfl | exact op_fieldC ⟨hE, hw⟩ 1 rfl K.u_api_Elem rfl K.sz_uint8 rfl rfl (by assumption) rfl) rfl ?_
    clear hE a; intro a hE
    refine qvG hE (by first | exact .t rfl | exact .f rfl | exact .gt rfl | exact .gf rfl) (fun hg w hw => by (try simp only [↓gval_on hg, ↓gval_and hg] at hE); (have hg2 := hg; (try simp only [Bool.and_eq_true, Bool.or_eq_true, Bool.not_eq_true', decide_eq_true_eq, decide_eq_false_iff_not] at hg2)); first | exact r_ldN ⟨hE, hw⟩ rfl K.u_uint8 rfl 0 rfl rfl | exact r_ldN ⟨hE, hw⟩ rfl K.u_uint8 rfl 1 rfl rfl | exact r_ldN ⟨hE, hw⟩ rfl K.u_uint8 rfl 2 rfl rfl | exact r_ldN ⟨hE, hw⟩ rfl K.u_uint8 rfl 3 rfl rfl | exact r_ldN ⟨hE, hw⟩ rfl K.u_uint8 rfl 4 rfl rfl | exact r_ldN ⟨hE, hw⟩ rfl K.u_uint8 rfl 5 rfl rfl | exact r_ldN ⟨hE, hw⟩ rfl K.u_uint8 rfl 6 rfl rfl | exact r_ldC (o := 1) ⟨hE, hw⟩ rfl K.u_uint8 rfl 0 rfl | exact r_ldC (o := 1) ⟨hE, hw⟩ rfl K.u_uint8 rfl 1 rfl | exact r_ldC (o := 1) ⟨hE, hw⟩ rfl K.u_uint8 rfl 2 rfl | exact r_ldC (o := 1) ⟨hE, hw⟩ rfl K.u_uint8 rfl 3 rfl | exact r_ldC (o := 1) ⟨hE, hw⟩ rfl K.u_uint8 rfl 4 rfl | exact r_ldC (o := 1) ⟨hE, hw⟩ rfl K.u_uint8 rfl 5 rfl | exact r_ldC (o := 1) ⟨hE, hw⟩ rfl K.u_uint8 rfl 6 rfl | exact r_load ⟨hE, hw⟩ rfl K.u_uint8 rfl 0 rfl rfl | exact r_load ⟨hE, hw⟩ rfl K.u_uint8 rfl 1 rfl rfl | exact r_load ⟨hE, hw⟩ rfl K.u_uint8 rfl 2 rfl rfl | exact r_load ⟨hE, hw⟩ rfl K.u_uint8 rfl 3 rfl rfl | exact r_load ⟨hE, hw⟩ rfl K.u_uint8 rfl 4 rfl rfl | exact r_load ⟨hE, hw⟩ rfl K.u_uint8 rfl 5 rfl rfl | exact r_load1 ⟨hE, hw⟩ rfl K.u_uint8 rfl (by assumption)) rfl ?_
    clear hE a; intro a hE
    refine qvG hE (by first | exact .t rfl | exact .f rfl | exact .gt rfl | exact .gf rfl) (fun hg w hw => by (try simp only [↓gval_on hg, ↓gval_and hg] at hE); (have hg2 := hg; (try simp only [Bool.and_eq_true, Bool.or_eq_true, Bool.not_eq_true', decide_eq_true_eq, decide_eq_false_iff_not] at hg2)); first | exact r_bin ⟨hE, hw⟩ rfl rfl (B.eql_u8 (y := 2))) rfl ?_
    clear hE a; intro a hE
    first
        | (refine qv hE (fun w hw => r_pickA ⟨hE, hw⟩ rfl rfl rfl) rfl ?_)
        | (refine qv hE (fun w hw => r_pickO ⟨hE, hw⟩ rfl rfl rfl) rfl ?_)
        | (refine qv hE (fun w hw => r_pick_true ⟨hE, hw⟩ rfl rfl) rfl ?_)
        | (refine qv hE (fun w hw => r_pick_false ⟨hE, hw⟩ rfl rfl) rfl ?_)
        | (refine qv hE (fun w hw => r_pick ⟨hE, hw⟩ rfl rfl rfl) rfl ?_)
    clear hE a; intro a hE
    refine qv hE (fun w hw => r_move ⟨hE, hw⟩ rfl) rfl ?_
    clear hE a; intro a hE
    refine qv hE (fun w hw => r_move ⟨hE, hw⟩ rfl) rfl ?_
    clear hE a; intro a hE
    refine qvG hE (by first | exact .t rfl | exact .f rfl | exact .gt rfl | exact .gf rfl) (fun hg w hw => by (try simp only [↓gval_on hg, ↓gval_and hg] at hE); (have hg2 := hg; (try simp only [Bool.and_eq_true, Bool.or_eq_true, Bool.not_eq_true', decide_eq_true_eq, decide_eq_false_iff_not] at hg2)); first | exact r_fieldAddr ⟨hE, hw⟩ 1 rfl K.u_api_Elem rfl K.sz_uint8 rfl rfl | exact op_fieldC ⟨hE, hw⟩ 1 rfl K.u_api_Elem rfl K.sz_uint8 rfl rfl (by assumption) rfl) rfl ?_
    clear hE a; intro a hE
    refine qvG hE (by first | exact .t rfl | exact .f rfl | exact .gt rfl | exact .gf rfl) (fun hg w hw => by (try simp only [↓gval_on hg, ↓gval_and hg] at hE); (have hg2 := hg; (try simp only [Bool.and_eq_true, Bool.or_eq_true, Bool.not_eq_true', decide_eq_true_eq, decide_eq_false_iff_not] at hg2)); first | exact r_ldN ⟨hE, hw⟩ rfl K.u_uint8 rfl 0 rfl rfl | exact r_ldN ⟨hE, hw⟩ rfl K.u_uint8 rfl 1 rfl rfl | exact r_ldN ⟨hE, hw⟩ rfl K.u_uint8 rfl 2 rfl rfl | exact r_ldN ⟨hE, hw⟩ rfl K.u_uint8 rfl 3 rfl rfl | exact r_ldN ⟨hE, hw⟩ rfl K.u_uint8 rfl 4 rfl rfl | exact r_ldN ⟨hE, hw⟩ rfl K.u_uint8 rfl 5 rfl rfl | exact r_ldN ⟨hE, hw⟩ rfl K.u_uint8 rfl 6 rfl rfl | exact r_ldC (o := 1) ⟨hE, hw⟩ rfl K.u_uint8 rfl 0 rfl | exact r_ldC (o := 1) ⟨hE, hw⟩ rfl K.u_uint8 rfl 1 rfl | exact r_ldC (o := 1) ⟨hE, hw⟩ rfl K.u_uint8 rfl 2 rfl | exact r_ldC (o := 1) ⟨hE, hw⟩ rfl K.u_uint8 rfl 3 rfl | exact r_ldC (o := 1) ⟨hE, hw⟩ rfl K.u_uint8 rfl 4 rfl | exact r_ldC (o := 1) ⟨hE, hw⟩ rfl K.u_uint8 rfl 5 rfl | exact r_ldC (o := 1) ⟨hE, hw⟩ rfl K.u_uint8 rfl 6 rfl | exact r_load ⟨hE, hw⟩ rfl K.u_uint8 rfl 0 rfl rfl | exact r_load ⟨hE, hw⟩ rfl K.u_uint8 rfl 1 rfl rfl | exact r_load ⟨hE, hw⟩ rfl K.u_uint8 rfl 2 rfl rfl | exact r_load ⟨hE, hw⟩ rfl K.u_uint8 rfl 3 rfl rfl | exact r_load ⟨hE, hw⟩ rfl K.u_uint8 rfl 4 rfl rfl | exact r_load ⟨hE, hw⟩ rfl K.u_uint8 rfl 5 rfl rfl | exact r_load1 ⟨hE, hw⟩ rfl K.u_uint8 rfl (by assumption)) rfl ?_
    clear hE a; intro a hE
    refine qvG hE (by first | exact .t rfl | exact .f rfl | exact .gt rfl | exact .gf rfl) (fun hg w hw => by (try simp only [↓gval_on hg, ↓gval_and hg] at hE); (have hg2 := hg; (try simp only [Bool.and_eq_true, Bool.or_eq_true, Bool.not_eq_true', decide_eq_true_eq, decide_eq_false_iff_not] at hg2)); first | exact r_bin ⟨hE, hw⟩ rfl rfl (B.neq_u8 (y := 2))) rfl ?_
    clear hE a; intro a hE
    first
        | (refine qv hE (fun w hw => r_pickA ⟨hE, hw⟩ rfl rfl rfl) rfl ?_)
        | (refine qv hE (fun w hw => r_pickO ⟨hE, hw⟩ rfl rfl rfl) rfl ?_)
        | (refine qv hE (fun w hw => r_pick_true ⟨hE, hw⟩ rfl rfl) rfl ?_)
        | (refine qv hE (fun w hw => r_pick_false ⟨hE, hw⟩ rfl rfl) rfl ?_)
        | (refine qv hE (fun w hw => r_pick ⟨hE, hw⟩ rfl rfl rfl) rfl ?_)
    clear hE a; intro a hE
    refine qv hE (fun w hw => r_assign ⟨hE, hw⟩ rfl) rfl ?_
    clear hE a; intro a hE
    refine qv hE (fun w hw => r_assign ⟨hE, hw⟩ rfl) rfl ?_
    clear hE a; intro a hE
    refine qnil hE ?_
    clear hE a; intro a w h
    refine b_normal ?_
    refine c_then ?_
    refine c_region ?_
    refine wv h (r_bin h rfl rfl (B.add_i64 (by omega) (by omega))) rfl ?_
    clear h a w; intro a w h
    refine wv h (r_move h rfl) rfl ?_
    clear h a w; intro a w h
    refine wnil ?_
    exact ⟨(i + 1, rg || decide (ch.kind = 2), ot || decide (ch.kind ≠ 2)), (h.drop 1).keep [0, 5, 6, 14, 15, 16], ⟨by show i + 1 ≤ cs.length; omega, by rw [← hx2, Bool.or_assoc], by rw [← hx3, Bool.or_assoc]⟩, by show cs.length - (i + 1) < cs.length - i; omega⟩
   ·
    obtain rfl : i = cs.length := by omega
    rw [List.drop_length, List.any_nil, Bool.or_false] at hx2 hx3
    refine c_exit ?_
    refine e_then ?_
    refine e_then ?_
    refine e_here ?_
    refine c_then ?_
    refine c_seq (c_region ?_)
    refine wv h (r_move h rfl) rfl ?_
    clear h a w; intro a w h
    refine wv h (r_move h rfl) rfl ?_
    clear h a w; intro a w h
    refine wvG h (by first | exact .t rfl | exact .f rfl | exact .gt rfl | exact .gf rfl) (fun hg => by (try simp only [↓gval_on hg, ↓gval_and hg] at h); (have hg2 := hg; (try simp only [Bool.and_eq_true, Bool.or_eq_true, Bool.not_eq_true', decide_eq_true_eq, decide_eq_false_iff_not] at hg2)); first | exact r_move h rfl) rfl ?_
    clear h a w; intro a w h
    first
        | (refine wv h (r_pickA h rfl rfl rfl) rfl ?_)
        | (refine wv h (r_pickO h rfl rfl rfl) rfl ?_)
        | (refine wv h (r_pick_true h rfl rfl) rfl ?_)
        | (refine wv h (r_pick_false h rfl rfl) rfl ?_)
        | (refine wv h (r_pick h rfl rfl rfl) rfl ?_)
    clear h a w; intro a w h
    refine wv h (r_assign h rfl) rfl ?_
    clear h a w; intro a w h
    refine wnil (c_then ?_)
    refine c_ret ?_
    exact ret1 h rfl rfl ⟨(), by rw [hb, ← hx2, ← hx3], h.2.drop 2, trivial⟩
end Go.Proofs.K
