/- The contracts of the document's bytes of charts, and of the charts that are made of numbers. -/
import Derived.Test.YtckdkncmkpoghaaRef09c
set_option linter.unusedVariables false
set_option linter.unusedSimpArgs false
set_option maxRecDepth 10000
set_option maxHeartbeats 4000000
namespace Go.Proofs.K
open Go.Sl
attribute [local irreducible] Go.Sl.Own Go.Sl.Blk Go.Sl.Sep Go.Sl.Ex Go.Sl.Fact

def numsE (last : Int) (e : El) : List Int := [e.id - last, (e.kind.toNat : Int), e.parent, e.order, e.src, e.dst]
def textsE (e : El) : List (List UInt8) := [e.name, e.event, e.guard, e.action]
def encNums (l : List Int) : List UInt8 := l.flatMap fun n => numN n.toNat
def encTexts (l : List (List UInt8)) : List UInt8 := l.flatMap fun t => numN t.length ++ t
theorem encE_parts (last : Int) (e : El) : encE last e = encNums (numsE last e) ++ encTexts (textsE e) := by
  simp [encE, encNums, encTexts, numsE, textsE]
theorem encNums_snoc {l : List Int} {j : Nat} (h : j < l.length) : encNums (l.take (j + 1)) = encNums (l.take j) ++ numN (l.getD j 0).toNat := by
  rw [List.take_add_one, List.getElem?_eq_getElem h, List.getD_eq_getElem?_getD, List.getElem?_eq_getElem h]
  simp only [encNums, Option.toList_some, List.flatMap_append, List.flatMap_cons, List.flatMap_nil, List.append_nil, Option.getD_some]
theorem encTexts_snoc {l : List (List UInt8)} {j : Nat} (h : j < l.length) : encTexts (l.take (j + 1)) = encTexts (l.take j) ++ (numN (l.getD j []).length ++ l.getD j []) := by
  rw [List.take_add_one, List.getElem?_eq_getElem h, List.getD_eq_getElem?_getD, List.getElem?_eq_getElem h]
  simp only [encTexts, Option.toList_some, List.flatMap_append, List.flatMap_cons, List.flatMap_nil, List.append_nil, Option.getD_some]
theorem encNums_len : ∀ (l : List Int), (∀ n ∈ l, n ≤ 100000000) → (encNums l).length ≤ 9 * l.length
  | [], _ => by simp [encNums]
  | n :: l, h => by
    have h1 := encNums_len l (fun m hm => h m (by simp [hm]))
    have h2 := numN_len9 n.toNat (by have := h n (by simp); omega)
    simp only [encNums, List.flatMap_cons, List.length_append, List.length_cons] at h1 ⊢
    omega
theorem encTexts_len : ∀ (l : List (List UInt8)), (∀ t ∈ l, t.length ≤ 12) → (encTexts l).length ≤ 21 * l.length
  | [], _ => by simp [encTexts]
  | t :: l, h => by
    have h1 := encTexts_len l (fun m hm => h m (by simp [hm]))
    have h3 := h t (by simp)
    have h2 := numN_len9 t.length (by omega)
    simp only [encTexts, List.flatMap_cons, List.length_append, List.length_cons] at h1 ⊢
    omega
theorem take_mem_len {α : Type} {l : List α} {k : Nat} : (l.take k).length ≤ l.length := by simp; omega

theorem ref09_Bytes (s w : World) (v : Value) (l : List El) (F : List HItem) (hR : RightC l) (hv : Views F 10 v l.length (l.flatMap cellsE)) (hs : Sat s w F) :
    Calls P n_ref09_Bytes #[v] w (Ret s (fun v : Value => v) (fun v => OwnB v (encC l) :: F) (fun _ => True)) := by
  have hl40 := hR.2.1
  have hlb := numN_len9 l.length (by omega)
  refine enter K.fn_ref09_Bytes rfl K.nt_ref09_Bytes rfl hs ?_
  clear hs w; intro a w h
  refine c_seq (c_region ?_)
  refine wv h (r_assign h rfl) rfl ?_
  clear h a w; intro a w h
  refine wnil (c_then ?_)
  refine c_seq (c_region ?_)
  refine wl rfl (op_buildSlice h K.u_S_uint8 K.sz_uint8 K.z_uint8 rfl rfl rfl rfl rfl (by simp [Value.cells, bv, w32, w64, sv]) rfl ?_)
  clear h a w; intro b11 a w h
  first
    | (refine wl rfl (op_lit h rfl K.u_S_uint8 K.u_uint8 0 rfl rfl ?_))
    | (refine wl rfl (op_lit h rfl K.u_S_uint8 K.u_uint8 1 rfl rfl ?_))
    | (refine wl rfl (op_lit h rfl K.u_S_uint8 K.u_uint8 2 rfl rfl ?_))
    | (refine wl rfl (op_lit h rfl K.u_S_uint8 K.u_uint8 3 rfl rfl ?_))
  clear h a w; intro a w h
  (try simp only [List.set_cons_zero, List.set_cons_succ] at h)
  (try simp only [List.set_cons_zero, List.set_cons_succ] at h)
  first | replace h := h.toOwnb [67, 49] (NF.past _) rfl rfl | (replace h := h.front 1 rfl; replace h := h.toOwnb [67, 49] (NF.past _) rfl rfl) | (replace h := h.front 2 rfl; replace h := h.toOwnb [67, 49] (NF.past _) rfl rfl) | (replace h := h.front 3 rfl; replace h := h.toOwnb [67, 49] (NF.past _) rfl rfl)
  refine wv h (r_move h rfl) rfl ?_
  clear h a w; intro a w h
  refine wv h (r_lenV h rfl K.u_api_Chart (by first | exact Views.own 0 rfl | exact Views.own 1 rfl | exact Views.own 2 rfl | exact Views.own 3 rfl | exact Views.own 4 rfl | exact Views.own 5 rfl | assumption | exact Views.of_drop 1 (by assumption) | exact Views.of_drop 2 (by assumption) | exact Views.of_drop 3 (by assumption) | exact Views.of_drop 4 (by assumption) | exact Views.of_drop 5 (by assumption) | exact Views.of_drop 6 (by assumption) | exact Views.of_drop 7 (by assumption) | exact Views.of_drop 8 (by assumption) | exact Views.of_drop 9 (by assumption) | exact Views.of_drop 10 (by assumption) | exact Views.of_drop 11 (by assumption) | exact Views.of_drop 12 (by assumption))) rfl ?_
  clear h a w; intro a w h
  refine wl rfl (op_call h rfl K.go_ref01_Num (ref_num s _ l.length _ (by omega) h.2) rfl ?_)
  clear h a w; intro v15 a w hx h
  (try simp only [List.set_cons_zero, List.set_cons_succ] at h)
  first
    | (refine wl rfl (op_appendbs h rfl rfl K.u_S_uint8 K.sz_uint8 K.z_uint8 rfl rfl 0 rfl (Src.bytes K.u_S_uint8 (by first | exact ViewsB.own 0 rfl | exact ViewsB.own 1 rfl | exact ViewsB.own 2 rfl | exact ViewsB.own 3 rfl | exact ViewsB.own 4 rfl | exact ViewsB.own 5 rfl | assumption | exact ViewsB.nil _ | exact ViewsB.arr 0 rfl (by first | assumption | rfl | (simp; done)) (Nat.le_refl _) (by simp [maxLen]) | exact ViewsB.arr 1 rfl (by first | assumption | rfl | (simp; done)) (Nat.le_refl _) (by simp [maxLen]) | exact ViewsB.arr 2 rfl (by first | assumption | rfl | (simp; done)) (Nat.le_refl _) (by simp [maxLen]) | exact ViewsB.arr 3 rfl (by first | assumption | rfl | (simp; done)) (Nat.le_refl _) (by simp [maxLen]) | exact ViewsB.arr 4 rfl (by first | assumption | rfl | (simp; done)) (Nat.le_refl _) (by simp [maxLen]) | exact ViewsB.of_drop 1 (by assumption) | exact ViewsB.of_drop 2 (by assumption) | exact ViewsB.of_drop 3 (by assumption) | exact ViewsB.of_drop 4 (by assumption) | exact ViewsB.of_drop 5 (by assumption) | exact ViewsB.of_drop 6 (by assumption) | exact ViewsB.of_drop 7 (by assumption) | exact ViewsB.of_drop 8 (by assumption) | exact ViewsB.of_drop 9 (by assumption) | exact ViewsB.of_drop 10 (by assumption) | exact ViewsB.of_drop 11 (by assumption) | exact ViewsB.of_drop 12 (by assumption) | exact ViewsB.sub (by first | exact ViewsB.own 0 rfl | exact ViewsB.own 1 rfl | exact ViewsB.own 2 rfl | exact ViewsB.own 3 rfl | exact ViewsB.own 4 rfl | exact ViewsB.own 5 rfl | assumption | exact ViewsB.nil _ | exact ViewsB.arr 0 rfl (by first | assumption | rfl | (simp; done)) (Nat.le_refl _) (by simp [maxLen]) | exact ViewsB.arr 1 rfl (by first | assumption | rfl | (simp; done)) (Nat.le_refl _) (by simp [maxLen]) | exact ViewsB.arr 2 rfl (by first | assumption | rfl | (simp; done)) (Nat.le_refl _) (by simp [maxLen]) | exact ViewsB.arr 3 rfl (by first | assumption | rfl | (simp; done)) (Nat.le_refl _) (by simp [maxLen]) | exact ViewsB.arr 4 rfl (by first | assumption | rfl | (simp; done)) (Nat.le_refl _) (by simp [maxLen]) | exact ViewsB.of_drop 1 (by assumption) | exact ViewsB.of_drop 2 (by assumption) | exact ViewsB.of_drop 3 (by assumption) | exact ViewsB.of_drop 4 (by assumption) | exact ViewsB.of_drop 5 (by assumption) | exact ViewsB.of_drop 6 (by assumption) | exact ViewsB.of_drop 7 (by assumption) | exact ViewsB.of_drop 8 (by assumption) | exact ViewsB.of_drop 9 (by assumption) | exact ViewsB.of_drop 10 (by assumption) | exact ViewsB.of_drop 11 (by assumption) | exact ViewsB.of_drop 12 (by assumption)) (by omega) (by first | omega | (simp; done) | (simp; omega))) h.2) (by first | omega | (simp only [List.length_cons, List.length_nil]; omega) | (simp; done) | (simp; omega)) rfl ?_))
    | (refine wl rfl (op_appendbs h rfl rfl K.u_S_uint8 K.sz_uint8 K.z_uint8 rfl rfl 1 rfl (Src.bytes K.u_S_uint8 (by first | exact ViewsB.own 0 rfl | exact ViewsB.own 1 rfl | exact ViewsB.own 2 rfl | exact ViewsB.own 3 rfl | exact ViewsB.own 4 rfl | exact ViewsB.own 5 rfl | assumption | exact ViewsB.nil _ | exact ViewsB.arr 0 rfl (by first | assumption | rfl | (simp; done)) (Nat.le_refl _) (by simp [maxLen]) | exact ViewsB.arr 1 rfl (by first | assumption | rfl | (simp; done)) (Nat.le_refl _) (by simp [maxLen]) | exact ViewsB.arr 2 rfl (by first | assumption | rfl | (simp; done)) (Nat.le_refl _) (by simp [maxLen]) | exact ViewsB.arr 3 rfl (by first | assumption | rfl | (simp; done)) (Nat.le_refl _) (by simp [maxLen]) | exact ViewsB.arr 4 rfl (by first | assumption | rfl | (simp; done)) (Nat.le_refl _) (by simp [maxLen]) | exact ViewsB.of_drop 1 (by assumption) | exact ViewsB.of_drop 2 (by assumption) | exact ViewsB.of_drop 3 (by assumption) | exact ViewsB.of_drop 4 (by assumption) | exact ViewsB.of_drop 5 (by assumption) | exact ViewsB.of_drop 6 (by assumption) | exact ViewsB.of_drop 7 (by assumption) | exact ViewsB.of_drop 8 (by assumption) | exact ViewsB.of_drop 9 (by assumption) | exact ViewsB.of_drop 10 (by assumption) | exact ViewsB.of_drop 11 (by assumption) | exact ViewsB.of_drop 12 (by assumption) | exact ViewsB.sub (by first | exact ViewsB.own 0 rfl | exact ViewsB.own 1 rfl | exact ViewsB.own 2 rfl | exact ViewsB.own 3 rfl | exact ViewsB.own 4 rfl | exact ViewsB.own 5 rfl | assumption | exact ViewsB.nil _ | exact ViewsB.arr 0 rfl (by first | assumption | rfl | (simp; done)) (Nat.le_refl _) (by simp [maxLen]) | exact ViewsB.arr 1 rfl (by first | assumption | rfl | (simp; done)) (Nat.le_refl _) (by simp [maxLen]) | exact ViewsB.arr 2 rfl (by first | assumption | rfl | (simp; done)) (Nat.le_refl _) (by simp [maxLen]) | exact ViewsB.arr 3 rfl (by first | assumption | rfl | (simp; done)) (Nat.le_refl _) (by simp [maxLen]) | exact ViewsB.arr 4 rfl (by first | assumption | rfl | (simp; done)) (Nat.le_refl _) (by simp [maxLen]) | exact ViewsB.of_drop 1 (by assumption) | exact ViewsB.of_drop 2 (by assumption) | exact ViewsB.of_drop 3 (by assumption) | exact ViewsB.of_drop 4 (by assumption) | exact ViewsB.of_drop 5 (by assumption) | exact ViewsB.of_drop 6 (by assumption) | exact ViewsB.of_drop 7 (by assumption) | exact ViewsB.of_drop 8 (by assumption) | exact ViewsB.of_drop 9 (by assumption) | exact ViewsB.of_drop 10 (by assumption) | exact ViewsB.of_drop 11 (by assumption) | exact ViewsB.of_drop 12 (by assumption)) (by omega) (by first | omega | (simp; done) | (simp; omega))) h.2) (by first | omega | (simp only [List.length_cons, List.length_nil]; omega) | (simp; done) | (simp; omega)) rfl ?_))
    | (refine wl rfl (op_appendbs h rfl rfl K.u_S_uint8 K.sz_uint8 K.z_uint8 rfl rfl 2 rfl (Src.bytes K.u_S_uint8 (by first | exact ViewsB.own 0 rfl | exact ViewsB.own 1 rfl | exact ViewsB.own 2 rfl | exact ViewsB.own 3 rfl | exact ViewsB.own 4 rfl | exact ViewsB.own 5 rfl | assumption | exact ViewsB.nil _ | exact ViewsB.arr 0 rfl (by first | assumption | rfl | (simp; done)) (Nat.le_refl _) (by simp [maxLen]) | exact ViewsB.arr 1 rfl (by first | assumption | rfl | (simp; done)) (Nat.le_refl _) (by simp [maxLen]) | exact ViewsB.arr 2 rfl (by first | assumption | rfl | (simp; done)) (Nat.le_refl _) (by simp [maxLen]) | exact ViewsB.arr 3 rfl (by first | assumption | rfl | (simp; done)) (Nat.le_refl _) (by simp [maxLen]) | exact ViewsB.arr 4 rfl (by first | assumption | rfl | (simp; done)) (Nat.le_refl _) (by simp [maxLen]) | exact ViewsB.of_drop 1 (by assumption) | exact ViewsB.of_drop 2 (by assumption) | exact ViewsB.of_drop 3 (by assumption) | exact ViewsB.of_drop 4 (by assumption) | exact ViewsB.of_drop 5 (by assumption) | exact ViewsB.of_drop 6 (by assumption) | exact ViewsB.of_drop 7 (by assumption) | exact ViewsB.of_drop 8 (by assumption) | exact ViewsB.of_drop 9 (by assumption) | exact ViewsB.of_drop 10 (by assumption) | exact ViewsB.of_drop 11 (by assumption) | exact ViewsB.of_drop 12 (by assumption) | exact ViewsB.sub (by first | exact ViewsB.own 0 rfl | exact ViewsB.own 1 rfl | exact ViewsB.own 2 rfl | exact ViewsB.own 3 rfl | exact ViewsB.own 4 rfl | exact ViewsB.own 5 rfl | assumption | exact ViewsB.nil _ | exact ViewsB.arr 0 rfl (by first | assumption | rfl | (simp; done)) (Nat.le_refl _) (by simp [maxLen]) | exact ViewsB.arr 1 rfl (by first | assumption | rfl | (simp; done)) (Nat.le_refl _) (by simp [maxLen]) | exact ViewsB.arr 2 rfl (by first | assumption | rfl | (simp; done)) (Nat.le_refl _) (by simp [maxLen]) | exact ViewsB.arr 3 rfl (by first | assumption | rfl | (simp; done)) (Nat.le_refl _) (by simp [maxLen]) | exact ViewsB.arr 4 rfl (by first | assumption | rfl | (simp; done)) (Nat.le_refl _) (by simp [maxLen]) | exact ViewsB.of_drop 1 (by assumption) | exact ViewsB.of_drop 2 (by assumption) | exact ViewsB.of_drop 3 (by assumption) | exact ViewsB.of_drop 4 (by assumption) | exact ViewsB.of_drop 5 (by assumption) | exact ViewsB.of_drop 6 (by assumption) | exact ViewsB.of_drop 7 (by assumption) | exact ViewsB.of_drop 8 (by assumption) | exact ViewsB.of_drop 9 (by assumption) | exact ViewsB.of_drop 10 (by assumption) | exact ViewsB.of_drop 11 (by assumption) | exact ViewsB.of_drop 12 (by assumption)) (by omega) (by first | omega | (simp; done) | (simp; omega))) h.2) (by first | omega | (simp only [List.length_cons, List.length_nil]; omega) | (simp; done) | (simp; omega)) rfl ?_))
    | (refine wl rfl (op_appendbs h rfl rfl K.u_S_uint8 K.sz_uint8 K.z_uint8 rfl rfl 3 rfl (Src.bytes K.u_S_uint8 (by first | exact ViewsB.own 0 rfl | exact ViewsB.own 1 rfl | exact ViewsB.own 2 rfl | exact ViewsB.own 3 rfl | exact ViewsB.own 4 rfl | exact ViewsB.own 5 rfl | assumption | exact ViewsB.nil _ | exact ViewsB.arr 0 rfl (by first | assumption | rfl | (simp; done)) (Nat.le_refl _) (by simp [maxLen]) | exact ViewsB.arr 1 rfl (by first | assumption | rfl | (simp; done)) (Nat.le_refl _) (by simp [maxLen]) | exact ViewsB.arr 2 rfl (by first | assumption | rfl | (simp; done)) (Nat.le_refl _) (by simp [maxLen]) | exact ViewsB.arr 3 rfl (by first | assumption | rfl | (simp; done)) (Nat.le_refl _) (by simp [maxLen]) | exact ViewsB.arr 4 rfl (by first | assumption | rfl | (simp; done)) (Nat.le_refl _) (by simp [maxLen]) | exact ViewsB.of_drop 1 (by assumption) | exact ViewsB.of_drop 2 (by assumption) | exact ViewsB.of_drop 3 (by assumption) | exact ViewsB.of_drop 4 (by assumption) | exact ViewsB.of_drop 5 (by assumption) | exact ViewsB.of_drop 6 (by assumption) | exact ViewsB.of_drop 7 (by assumption) | exact ViewsB.of_drop 8 (by assumption) | exact ViewsB.of_drop 9 (by assumption) | exact ViewsB.of_drop 10 (by assumption) | exact ViewsB.of_drop 11 (by assumption) | exact ViewsB.of_drop 12 (by assumption) | exact ViewsB.sub (by first | exact ViewsB.own 0 rfl | exact ViewsB.own 1 rfl | exact ViewsB.own 2 rfl | exact ViewsB.own 3 rfl | exact ViewsB.own 4 rfl | exact ViewsB.own 5 rfl | assumption | exact ViewsB.nil _ | exact ViewsB.arr 0 rfl (by first | assumption | rfl | (simp; done)) (Nat.le_refl _) (by simp [maxLen]) | exact ViewsB.arr 1 rfl (by first | assumption | rfl | (simp; done)) (Nat.le_refl _) (by simp [maxLen]) | exact ViewsB.arr 2 rfl (by first | assumption | rfl | (simp; done)) (Nat.le_refl _) (by simp [maxLen]) | exact ViewsB.arr 3 rfl (by first | assumption | rfl | (simp; done)) (Nat.le_refl _) (by simp [maxLen]) | exact ViewsB.arr 4 rfl (by first | assumption | rfl | (simp; done)) (Nat.le_refl _) (by simp [maxLen]) | exact ViewsB.of_drop 1 (by assumption) | exact ViewsB.of_drop 2 (by assumption) | exact ViewsB.of_drop 3 (by assumption) | exact ViewsB.of_drop 4 (by assumption) | exact ViewsB.of_drop 5 (by assumption) | exact ViewsB.of_drop 6 (by assumption) | exact ViewsB.of_drop 7 (by assumption) | exact ViewsB.of_drop 8 (by assumption) | exact ViewsB.of_drop 9 (by assumption) | exact ViewsB.of_drop 10 (by assumption) | exact ViewsB.of_drop 11 (by assumption) | exact ViewsB.of_drop 12 (by assumption)) (by omega) (by first | omega | (simp; done) | (simp; omega))) h.2) (by first | omega | (simp only [List.length_cons, List.length_nil]; omega) | (simp; done) | (simp; omega)) rfl ?_))
    | (refine wl rfl (op_appendbs h rfl rfl K.u_S_uint8 K.sz_uint8 K.z_uint8 rfl rfl 4 rfl (Src.bytes K.u_S_uint8 (by first | exact ViewsB.own 0 rfl | exact ViewsB.own 1 rfl | exact ViewsB.own 2 rfl | exact ViewsB.own 3 rfl | exact ViewsB.own 4 rfl | exact ViewsB.own 5 rfl | assumption | exact ViewsB.nil _ | exact ViewsB.arr 0 rfl (by first | assumption | rfl | (simp; done)) (Nat.le_refl _) (by simp [maxLen]) | exact ViewsB.arr 1 rfl (by first | assumption | rfl | (simp; done)) (Nat.le_refl _) (by simp [maxLen]) | exact ViewsB.arr 2 rfl (by first | assumption | rfl | (simp; done)) (Nat.le_refl _) (by simp [maxLen]) | exact ViewsB.arr 3 rfl (by first | assumption | rfl | (simp; done)) (Nat.le_refl _) (by simp [maxLen]) | exact ViewsB.arr 4 rfl (by first | assumption | rfl | (simp; done)) (Nat.le_refl _) (by simp [maxLen]) | exact ViewsB.of_drop 1 (by assumption) | exact ViewsB.of_drop 2 (by assumption) | exact ViewsB.of_drop 3 (by assumption) | exact ViewsB.of_drop 4 (by assumption) | exact ViewsB.of_drop 5 (by assumption) | exact ViewsB.of_drop 6 (by assumption) | exact ViewsB.of_drop 7 (by assumption) | exact ViewsB.of_drop 8 (by assumption) | exact ViewsB.of_drop 9 (by assumption) | exact ViewsB.of_drop 10 (by assumption) | exact ViewsB.of_drop 11 (by assumption) | exact ViewsB.of_drop 12 (by assumption) | exact ViewsB.sub (by first | exact ViewsB.own 0 rfl | exact ViewsB.own 1 rfl | exact ViewsB.own 2 rfl | exact ViewsB.own 3 rfl | exact ViewsB.own 4 rfl | exact ViewsB.own 5 rfl | assumption | exact ViewsB.nil _ | exact ViewsB.arr 0 rfl (by first | assumption | rfl | (simp; done)) (Nat.le_refl _) (by simp [maxLen]) | exact ViewsB.arr 1 rfl (by first | assumption | rfl | (simp; done)) (Nat.le_refl _) (by simp [maxLen]) | exact ViewsB.arr 2 rfl (by first | assumption | rfl | (simp; done)) (Nat.le_refl _) (by simp [maxLen]) | exact ViewsB.arr 3 rfl (by first | assumption | rfl | (simp; done)) (Nat.le_refl _) (by simp [maxLen]) | exact ViewsB.arr 4 rfl (by first | assumption | rfl | (simp; done)) (Nat.le_refl _) (by simp [maxLen]) | exact ViewsB.of_drop 1 (by assumption) | exact ViewsB.of_drop 2 (by assumption) | exact ViewsB.of_drop 3 (by assumption) | exact ViewsB.of_drop 4 (by assumption) | exact ViewsB.of_drop 5 (by assumption) | exact ViewsB.of_drop 6 (by assumption) | exact ViewsB.of_drop 7 (by assumption) | exact ViewsB.of_drop 8 (by assumption) | exact ViewsB.of_drop 9 (by assumption) | exact ViewsB.of_drop 10 (by assumption) | exact ViewsB.of_drop 11 (by assumption) | exact ViewsB.of_drop 12 (by assumption)) (by omega) (by first | omega | (simp; done) | (simp; omega))) h.2) (by first | omega | (simp only [List.length_cons, List.length_nil]; omega) | (simp; done) | (simp; omega)) rfl ?_))
    | (refine wl rfl (op_appendbs h rfl rfl K.u_S_uint8 K.sz_uint8 K.z_uint8 rfl rfl 5 rfl (Src.bytes K.u_S_uint8 (by first | exact ViewsB.own 0 rfl | exact ViewsB.own 1 rfl | exact ViewsB.own 2 rfl | exact ViewsB.own 3 rfl | exact ViewsB.own 4 rfl | exact ViewsB.own 5 rfl | assumption | exact ViewsB.nil _ | exact ViewsB.arr 0 rfl (by first | assumption | rfl | (simp; done)) (Nat.le_refl _) (by simp [maxLen]) | exact ViewsB.arr 1 rfl (by first | assumption | rfl | (simp; done)) (Nat.le_refl _) (by simp [maxLen]) | exact ViewsB.arr 2 rfl (by first | assumption | rfl | (simp; done)) (Nat.le_refl _) (by simp [maxLen]) | exact ViewsB.arr 3 rfl (by first | assumption | rfl | (simp; done)) (Nat.le_refl _) (by simp [maxLen]) | exact ViewsB.arr 4 rfl (by first | assumption | rfl | (simp; done)) (Nat.le_refl _) (by simp [maxLen]) | exact ViewsB.of_drop 1 (by assumption) | exact ViewsB.of_drop 2 (by assumption) | exact ViewsB.of_drop 3 (by assumption) | exact ViewsB.of_drop 4 (by assumption) | exact ViewsB.of_drop 5 (by assumption) | exact ViewsB.of_drop 6 (by assumption) | exact ViewsB.of_drop 7 (by assumption) | exact ViewsB.of_drop 8 (by assumption) | exact ViewsB.of_drop 9 (by assumption) | exact ViewsB.of_drop 10 (by assumption) | exact ViewsB.of_drop 11 (by assumption) | exact ViewsB.of_drop 12 (by assumption) | exact ViewsB.sub (by first | exact ViewsB.own 0 rfl | exact ViewsB.own 1 rfl | exact ViewsB.own 2 rfl | exact ViewsB.own 3 rfl | exact ViewsB.own 4 rfl | exact ViewsB.own 5 rfl | assumption | exact ViewsB.nil _ | exact ViewsB.arr 0 rfl (by first | assumption | rfl | (simp; done)) (Nat.le_refl _) (by simp [maxLen]) | exact ViewsB.arr 1 rfl (by first | assumption | rfl | (simp; done)) (Nat.le_refl _) (by simp [maxLen]) | exact ViewsB.arr 2 rfl (by first | assumption | rfl | (simp; done)) (Nat.le_refl _) (by simp [maxLen]) | exact ViewsB.arr 3 rfl (by first | assumption | rfl | (simp; done)) (Nat.le_refl _) (by simp [maxLen]) | exact ViewsB.arr 4 rfl (by first | assumption | rfl | (simp; done)) (Nat.le_refl _) (by simp [maxLen]) | exact ViewsB.of_drop 1 (by assumption) | exact ViewsB.of_drop 2 (by assumption) | exact ViewsB.of_drop 3 (by assumption) | exact ViewsB.of_drop 4 (by assumption) | exact ViewsB.of_drop 5 (by assumption) | exact ViewsB.of_drop 6 (by assumption) | exact ViewsB.of_drop 7 (by assumption) | exact ViewsB.of_drop 8 (by assumption) | exact ViewsB.of_drop 9 (by assumption) | exact ViewsB.of_drop 10 (by assumption) | exact ViewsB.of_drop 11 (by assumption) | exact ViewsB.of_drop 12 (by assumption)) (by omega) (by first | omega | (simp; done) | (simp; omega))) h.2) (by first | omega | (simp only [List.length_cons, List.length_nil]; omega) | (simp; done) | (simp; omega)) rfl ?_))
  clear h a w; intro v16 a w h
  (try simp only [List.set_cons_zero, List.set_cons_succ] at h)
  refine wv h (r_assign h rfl) rfl ?_
  clear h a w; intro a w h
  refine wnil (c_then ?_)
  refine c_seq (c_region ?_)
  refine wv h (r_assign h rfl) rfl ?_
  clear h a w; intro a w h
  refine wnil (c_then ?_)
  refine c_seq ?_
  refine c_seq (c_region ?_)
  refine wv h (r_assign h rfl) rfl ?_
  clear h a w; intro a w h
  refine wnil (c_then ?_)
  refine c_block ?_
  refine c_loopX ⟨h.1, h.2.rid 0⟩ (X := Nat × Value) (fun x => [(0, v), (3, x.2), (4, .int .i64 (lastId 0 (l.take x.1))), (5, .int .i64 (x.1 : Int))]) (fun x => OwnB x.2 ([67, 49] ++ numN l.length ++ encEs 0 (l.take x.1)) :: F)
    (fun x => x.1 ≤ l.length) (fun x => l.length - x.1) (0, v16) ⟨(h.keep [0, 3, 4, 5]).1, by rw [List.take_zero, encEs, List.append_nil]; exact h.2.rid 0⟩ (Nat.zero_le _) ?_
  clear h a w; intro x a w hx h
  obtain ⟨i, pv⟩ := x
  replace hx : i ≤ l.length := hx
  dsimp only at h
  as_aux_lemma =>
    refine c_seq ?_
    refine c_seq (c_region ?_)
    refine wv h (r_move h rfl) rfl ?_
    clear h a w; intro a w h
    refine wv h (r_move h rfl) rfl ?_
    clear h a w; intro a w h
    refine wv h (r_lenV h rfl K.u_api_Chart (by first | exact Views.own 0 rfl | exact Views.own 1 rfl | exact Views.own 2 rfl | exact Views.own 3 rfl | exact Views.own 4 rfl | exact Views.own 5 rfl | assumption | exact Views.of_drop 1 (by assumption) | exact Views.of_drop 2 (by assumption) | exact Views.of_drop 3 (by assumption) | exact Views.of_drop 4 (by assumption) | exact Views.of_drop 5 (by assumption) | exact Views.of_drop 6 (by assumption) | exact Views.of_drop 7 (by assumption) | exact Views.of_drop 8 (by assumption) | exact Views.of_drop 9 (by assumption) | exact Views.of_drop 10 (by assumption) | exact Views.of_drop 11 (by assumption) | exact Views.of_drop 12 (by assumption))) rfl ?_
    clear h a w; intro a w h
    refine wv h (r_bin h rfl rfl (B.lss_int)) rfl ?_
    clear h a w; intro a w h
    refine wnil (c_then ?_)
    first
      | refine c_condD h rfl (fun ht1 => ?_) (fun ht1 => ?_)
      | refine c_condP h rfl (by first | (simp only [Bool.and_eq_true, Bool.or_eq_true, Bool.not_eq_true', decide_eq_true_eq, decide_eq_false_iff_not, ne_eq, Bool.not_eq_eq_eq_not, Bool.not_true, beq_iff_eq, bne_iff_ne]; exact Iff.rfl) | exact Iff.rfl) (fun ht1 => ?_) (fun ht1 => ?_)
    ·
      obtain ⟨e, he⟩ := get_some (l := l) (i := i) (by omega)
      have hmem : e ∈ l := List.mem_of_getElem? he
      have hts : l.take (i + 1) = l.take i ++ [e] := by rw [List.take_add_one, he]; rfl
      obtain ⟨h1, h2, h3, h4⟩ := hR.1 e hmem
      have h2x : ∀ t ∈ textsE e, t.length ≤ 12 := h2
      simp only [List.mem_cons, List.not_mem_nil, or_false, forall_eq_or_imp, forall_eq] at h1 h2
      obtain ⟨⟨p1, p2⟩, ⟨p3, p4⟩, ⟨p5, p6⟩, p7, p8⟩ := h1
      have hk := e.kind.toNat_lt
      have hlast := lastId_ok (l.take i) (fun x hx => hR.1 x (List.mem_of_mem_take hx))
      have hrl := rises_last hR.2.2 he h3
      have hel := encEs_len (l.take i) (fun x hx => hR.1 x (List.mem_of_mem_take hx))
      rw [List.length_take] at hel
      have hAl : ([67, 49] ++ numN l.length ++ encEs 0 (l.take i)).length ≤ 7000 := by simp only [List.length_append, List.length_cons, List.length_nil]; omega
      have hAe : [67, 49] ++ numN l.length ++ encEs 0 (l.take (i + 1)) = ([67, 49] ++ numN l.length ++ encEs 0 (l.take i)) ++ encE (lastId 0 (l.take i)) e := by rw [hts, encEs_snoc]; simp only [List.append_assoc]
      have hid : lastId 0 (l.take (i + 1)) = e.id := by rw [hts, lastId_snoc]
      rw [encE_parts] at hAe
      generalize ([67, 49] ++ numN l.length ++ encEs 0 (l.take i)) = A at h hAl hAe
      generalize lastId 0 (l.take i) = last at h hlast hrl hAe
      have hnn : ∀ n ∈ numsE last e, 0 ≤ n ∧ n ≤ 100000000 := by
        simp only [numsE, List.mem_cons, List.not_mem_nil, or_false, forall_eq_or_imp, forall_eq]
        omega
      have hel1 := encNums_len (numsE last e) (fun n hn => (hnn n hn).2)
      have hel2 := encTexts_len (textsE e) h2x
      have hnl : (numsE last e).length = 6 := rfl
      have htl : (textsE e).length = 4 := rfl
      refine c_skip ?_
      refine c_then ?_
      refine c_seq ?_
      refine c_block ?_
      refine c_seq (c_region ?_)
      refine wv h (r_move h rfl) rfl ?_
      clear h a w; intro a w h
      refine wv h (r_move h rfl) rfl ?_
      clear h a w; intro a w h
      refine wv h (r_elP h rfl rfl K.u_api_Chart K.sz_api_Elem (by first | exact Views.own 0 rfl | exact Views.own 1 rfl | exact Views.own 2 rfl | exact Views.own 3 rfl | exact Views.own 4 rfl | exact Views.own 5 rfl | assumption | exact Views.of_drop 1 (by assumption) | exact Views.of_drop 2 (by assumption) | exact Views.of_drop 3 (by assumption) | exact Views.of_drop 4 (by assumption) | exact Views.of_drop 5 (by assumption) | exact Views.of_drop 6 (by assumption) | exact Views.of_drop 7 (by assumption) | exact Views.of_drop 8 (by assumption) | exact Views.of_drop 9 (by assumption) | exact Views.of_drop 10 (by assumption) | exact Views.of_drop 11 (by assumption) | exact Views.of_drop 12 (by assumption)) (by first | omega | (simp; done)) (by first | omega | (simp only [List.length_cons, List.length_nil]; omega) | (simp; done) | (simp; omega))) rfl ?_
      clear h a w; intro a w h
      first
        | (refine wv h (r_elM h rfl K.u_api_Elem rfl K.sz_api_Elem rfl (by first | exact Views.own 0 rfl | exact Views.own 1 rfl | exact Views.own 2 rfl | exact Views.own 3 rfl | exact Views.own 4 rfl | exact Views.own 5 rfl | assumption | exact Views.of_drop 1 (by assumption) | exact Views.of_drop 2 (by assumption) | exact Views.of_drop 3 (by assumption) | exact Views.of_drop 4 (by assumption) | exact Views.of_drop 5 (by assumption) | exact Views.of_drop 6 (by assumption) | exact Views.of_drop 7 (by assumption) | exact Views.of_drop 8 (by assumption) | exact Views.of_drop 9 (by assumption) | exact Views.of_drop 10 (by assumption) | exact Views.of_drop 11 (by assumption) | exact Views.of_drop 12 (by assumption)) (by assumption)) rfl ?_)
        | (refine wv h (r_elMd h rfl K.u_api_Elem rfl K.sz_api_Elem rfl (by first | exact Views.own 0 rfl | exact Views.own 1 rfl | exact Views.own 2 rfl | exact Views.own 3 rfl | exact Views.own 4 rfl | exact Views.own 5 rfl | assumption | exact Views.of_drop 1 (by assumption) | exact Views.of_drop 2 (by assumption) | exact Views.of_drop 3 (by assumption) | exact Views.of_drop 4 (by assumption) | exact Views.of_drop 5 (by assumption) | exact Views.of_drop 6 (by assumption) | exact Views.of_drop 7 (by assumption) | exact Views.of_drop 8 (by assumption) | exact Views.of_drop 9 (by assumption) | exact Views.of_drop 10 (by assumption) | exact Views.of_drop 11 (by assumption) | exact Views.of_drop 12 (by assumption)) (by first | omega | (simp only [List.length_cons, List.length_nil]; omega) | (simp; done) | (simp; omega))) rfl ?_)
      clear h a w; intro a w h
      refine wl rfl (op_alloc h K.z_api_Elem rfl ?_)
      clear h a w; intro b6 a w h
      first
        | (refine wl rfl (op_stA h rfl rfl K.sz_api_Elem (by first | exact Row.len _ | rfl | assumption | (simp; done) | (simp; omega) | omega) (by first | exact Row.one _ | exact bs_one _ | assumption | (simp; done) | (simp; (repeat' apply And.intro) <;> first | rfl | assumption)) 0 rfl (by first | rfl | assumption | (simp; done) | (simp; omega) | omega) ?_))
        | (refine wl rfl (op_stA h rfl rfl K.sz_api_Elem (by first | exact Row.len _ | rfl | assumption | (simp; done) | (simp; omega) | omega) (by first | exact Row.one _ | exact bs_one _ | assumption | (simp; done) | (simp; (repeat' apply And.intro) <;> first | rfl | assumption)) 1 rfl (by first | rfl | assumption | (simp; done) | (simp; omega) | omega) ?_))
        | (refine wl rfl (op_stA h rfl rfl K.sz_api_Elem (by first | exact Row.len _ | rfl | assumption | (simp; done) | (simp; omega) | omega) (by first | exact Row.one _ | exact bs_one _ | assumption | (simp; done) | (simp; (repeat' apply And.intro) <;> first | rfl | assumption)) 2 rfl (by first | rfl | assumption | (simp; done) | (simp; omega) | omega) ?_))
        | (refine wl rfl (op_stA h rfl rfl K.sz_api_Elem (by first | exact Row.len _ | rfl | assumption | (simp; done) | (simp; omega) | omega) (by first | exact Row.one _ | exact bs_one _ | assumption | (simp; done) | (simp; (repeat' apply And.intro) <;> first | rfl | assumption)) 3 rfl (by first | rfl | assumption | (simp; done) | (simp; omega) | omega) ?_))
        | (refine wl rfl (op_stA h rfl rfl K.sz_api_Elem (by first | exact Row.len _ | rfl | assumption | (simp; done) | (simp; omega) | omega) (by first | exact Row.one _ | exact bs_one _ | assumption | (simp; done) | (simp; (repeat' apply And.intro) <;> first | rfl | assumption)) 4 rfl (by first | rfl | assumption | (simp; done) | (simp; omega) | omega) ?_))
        | (refine wl rfl (op_stA h rfl rfl K.sz_api_Elem (by first | exact Row.len _ | rfl | assumption | (simp; done) | (simp; omega) | omega) (by first | exact Row.one _ | exact bs_one _ | assumption | (simp; done) | (simp; (repeat' apply And.intro) <;> first | rfl | assumption)) 5 rfl (by first | rfl | assumption | (simp; done) | (simp; omega) | omega) ?_))
      clear h a w; intro a w h
      (try simp only [List.set_cons_zero, List.set_cons_succ] at h)
      refine wnil (c_then ?_)
      refine c_seq ?_
      refine c_seq (c_region ?_)
      refine wv h (r_fieldAddr0 h rfl K.u_api_Elem rfl K.sz_int rfl rfl) rfl ?_
      clear h a w; intro a w h
      first
        | (refine wv h (r_ldN h rfl K.u_int rfl 0 rfl rfl) rfl ?_)
        | (refine wv h (r_ldN h rfl K.u_int rfl 1 rfl rfl) rfl ?_)
        | (refine wv h (r_ldN h rfl K.u_int rfl 2 rfl rfl) rfl ?_)
        | (refine wv h (r_ldN h rfl K.u_int rfl 3 rfl rfl) rfl ?_)
        | (refine wv h (r_ldN h rfl K.u_int rfl 4 rfl rfl) rfl ?_)
        | (refine wv h (r_ldN h rfl K.u_int rfl 5 rfl rfl) rfl ?_)
        | (refine wv h (r_ldN h rfl K.u_int rfl 6 rfl rfl) rfl ?_)
        | (refine wv h (r_ldC (o := 0) h rfl K.u_int rfl 0 rfl) rfl ?_)
        | (refine wv h (r_ldC (o := 0) h rfl K.u_int rfl 1 rfl) rfl ?_)
        | (refine wv h (r_ldC (o := 0) h rfl K.u_int rfl 2 rfl) rfl ?_)
        | (refine wv h (r_ldC (o := 0) h rfl K.u_int rfl 3 rfl) rfl ?_)
        | (refine wv h (r_ldC (o := 0) h rfl K.u_int rfl 4 rfl) rfl ?_)
        | (refine wv h (r_ldC (o := 0) h rfl K.u_int rfl 5 rfl) rfl ?_)
        | (refine wv h (r_ldC (o := 0) h rfl K.u_int rfl 6 rfl) rfl ?_)
        | (refine wv h (r_load h rfl K.u_int rfl 0 rfl rfl) rfl ?_)
        | (refine wv h (r_load h rfl K.u_int rfl 1 rfl rfl) rfl ?_)
        | (refine wv h (r_load h rfl K.u_int rfl 2 rfl rfl) rfl ?_)
        | (refine wv h (r_load h rfl K.u_int rfl 3 rfl rfl) rfl ?_)
        | (refine wv h (r_load h rfl K.u_int rfl 4 rfl rfl) rfl ?_)
        | (refine wv h (r_load h rfl K.u_int rfl 5 rfl rfl) rfl ?_)
        | (refine wv h (r_load1 h rfl K.u_int rfl (by assumption)) rfl ?_)
      clear h a w; intro a w h
      refine wv h (r_move h rfl) rfl ?_
      clear h a w; intro a w h
      refine wv h (r_bin h rfl rfl (B.sub_i64 (by omega) (by omega))) rfl ?_
      clear h a w; intro a w h
      refine wv h (r_fieldAddr h 1 rfl K.u_api_Elem rfl K.sz_uint8 rfl rfl) rfl ?_
      clear h a w; intro a w h
      first
        | (refine wv h (r_ldN h rfl K.u_uint8 rfl 0 rfl rfl) rfl ?_)
        | (refine wv h (r_ldN h rfl K.u_uint8 rfl 1 rfl rfl) rfl ?_)
        | (refine wv h (r_ldN h rfl K.u_uint8 rfl 2 rfl rfl) rfl ?_)
        | (refine wv h (r_ldN h rfl K.u_uint8 rfl 3 rfl rfl) rfl ?_)
        | (refine wv h (r_ldN h rfl K.u_uint8 rfl 4 rfl rfl) rfl ?_)
        | (refine wv h (r_ldN h rfl K.u_uint8 rfl 5 rfl rfl) rfl ?_)
        | (refine wv h (r_ldN h rfl K.u_uint8 rfl 6 rfl rfl) rfl ?_)
        | (refine wv h (r_ldC (o := 1) h rfl K.u_uint8 rfl 0 rfl) rfl ?_)
        | (refine wv h (r_ldC (o := 1) h rfl K.u_uint8 rfl 1 rfl) rfl ?_)
        | (refine wv h (r_ldC (o := 1) h rfl K.u_uint8 rfl 2 rfl) rfl ?_)
        | (refine wv h (r_ldC (o := 1) h rfl K.u_uint8 rfl 3 rfl) rfl ?_)
        | (refine wv h (r_ldC (o := 1) h rfl K.u_uint8 rfl 4 rfl) rfl ?_)
        | (refine wv h (r_ldC (o := 1) h rfl K.u_uint8 rfl 5 rfl) rfl ?_)
        | (refine wv h (r_ldC (o := 1) h rfl K.u_uint8 rfl 6 rfl) rfl ?_)
        | (refine wv h (r_load h rfl K.u_uint8 rfl 0 rfl rfl) rfl ?_)
        | (refine wv h (r_load h rfl K.u_uint8 rfl 1 rfl rfl) rfl ?_)
        | (refine wv h (r_load h rfl K.u_uint8 rfl 2 rfl rfl) rfl ?_)
        | (refine wv h (r_load h rfl K.u_uint8 rfl 3 rfl rfl) rfl ?_)
        | (refine wv h (r_load h rfl K.u_uint8 rfl 4 rfl rfl) rfl ?_)
        | (refine wv h (r_load h rfl K.u_uint8 rfl 5 rfl rfl) rfl ?_)
        | (refine wv h (r_load1 h rfl K.u_uint8 rfl (by assumption)) rfl ?_)
      clear h a w; intro a w h
      refine wv h (r_conv h rfl K.u_uint8 K.u_int (C.i64_u8) ) rfl ?_
      clear h a w; intro a w h
      refine wv h (r_fieldAddr h 2 rfl K.u_api_Elem rfl K.sz_int rfl rfl) rfl ?_
      clear h a w; intro a w h
      first
        | (refine wv h (r_ldN h rfl K.u_int rfl 0 rfl rfl) rfl ?_)
        | (refine wv h (r_ldN h rfl K.u_int rfl 1 rfl rfl) rfl ?_)
        | (refine wv h (r_ldN h rfl K.u_int rfl 2 rfl rfl) rfl ?_)
        | (refine wv h (r_ldN h rfl K.u_int rfl 3 rfl rfl) rfl ?_)
        | (refine wv h (r_ldN h rfl K.u_int rfl 4 rfl rfl) rfl ?_)
        | (refine wv h (r_ldN h rfl K.u_int rfl 5 rfl rfl) rfl ?_)
        | (refine wv h (r_ldN h rfl K.u_int rfl 6 rfl rfl) rfl ?_)
        | (refine wv h (r_ldC (o := 2) h rfl K.u_int rfl 0 rfl) rfl ?_)
        | (refine wv h (r_ldC (o := 2) h rfl K.u_int rfl 1 rfl) rfl ?_)
        | (refine wv h (r_ldC (o := 2) h rfl K.u_int rfl 2 rfl) rfl ?_)
        | (refine wv h (r_ldC (o := 2) h rfl K.u_int rfl 3 rfl) rfl ?_)
        | (refine wv h (r_ldC (o := 2) h rfl K.u_int rfl 4 rfl) rfl ?_)
        | (refine wv h (r_ldC (o := 2) h rfl K.u_int rfl 5 rfl) rfl ?_)
        | (refine wv h (r_ldC (o := 2) h rfl K.u_int rfl 6 rfl) rfl ?_)
        | (refine wv h (r_load h rfl K.u_int rfl 0 rfl rfl) rfl ?_)
        | (refine wv h (r_load h rfl K.u_int rfl 1 rfl rfl) rfl ?_)
        | (refine wv h (r_load h rfl K.u_int rfl 2 rfl rfl) rfl ?_)
        | (refine wv h (r_load h rfl K.u_int rfl 3 rfl rfl) rfl ?_)
        | (refine wv h (r_load h rfl K.u_int rfl 4 rfl rfl) rfl ?_)
        | (refine wv h (r_load h rfl K.u_int rfl 5 rfl rfl) rfl ?_)
        | (refine wv h (r_load1 h rfl K.u_int rfl (by assumption)) rfl ?_)
      clear h a w; intro a w h
      refine wv h (r_fieldAddr h 3 rfl K.u_api_Elem rfl K.sz_int rfl rfl) rfl ?_
      clear h a w; intro a w h
      first
        | (refine wv h (r_ldN h rfl K.u_int rfl 0 rfl rfl) rfl ?_)
        | (refine wv h (r_ldN h rfl K.u_int rfl 1 rfl rfl) rfl ?_)
        | (refine wv h (r_ldN h rfl K.u_int rfl 2 rfl rfl) rfl ?_)
        | (refine wv h (r_ldN h rfl K.u_int rfl 3 rfl rfl) rfl ?_)
        | (refine wv h (r_ldN h rfl K.u_int rfl 4 rfl rfl) rfl ?_)
        | (refine wv h (r_ldN h rfl K.u_int rfl 5 rfl rfl) rfl ?_)
        | (refine wv h (r_ldN h rfl K.u_int rfl 6 rfl rfl) rfl ?_)
        | (refine wv h (r_ldC (o := 3) h rfl K.u_int rfl 0 rfl) rfl ?_)
        | (refine wv h (r_ldC (o := 3) h rfl K.u_int rfl 1 rfl) rfl ?_)
        | (refine wv h (r_ldC (o := 3) h rfl K.u_int rfl 2 rfl) rfl ?_)
        | (refine wv h (r_ldC (o := 3) h rfl K.u_int rfl 3 rfl) rfl ?_)
        | (refine wv h (r_ldC (o := 3) h rfl K.u_int rfl 4 rfl) rfl ?_)
        | (refine wv h (r_ldC (o := 3) h rfl K.u_int rfl 5 rfl) rfl ?_)
        | (refine wv h (r_ldC (o := 3) h rfl K.u_int rfl 6 rfl) rfl ?_)
        | (refine wv h (r_load h rfl K.u_int rfl 0 rfl rfl) rfl ?_)
        | (refine wv h (r_load h rfl K.u_int rfl 1 rfl rfl) rfl ?_)
        | (refine wv h (r_load h rfl K.u_int rfl 2 rfl rfl) rfl ?_)
        | (refine wv h (r_load h rfl K.u_int rfl 3 rfl rfl) rfl ?_)
        | (refine wv h (r_load h rfl K.u_int rfl 4 rfl rfl) rfl ?_)
        | (refine wv h (r_load h rfl K.u_int rfl 5 rfl rfl) rfl ?_)
        | (refine wv h (r_load1 h rfl K.u_int rfl (by assumption)) rfl ?_)
      clear h a w; intro a w h
      refine wv h (r_fieldAddr h 5 rfl K.u_api_Elem rfl K.sz_int rfl rfl) rfl ?_
      clear h a w; intro a w h
      first
        | (refine wv h (r_ldN h rfl K.u_int rfl 0 rfl rfl) rfl ?_)
        | (refine wv h (r_ldN h rfl K.u_int rfl 1 rfl rfl) rfl ?_)
        | (refine wv h (r_ldN h rfl K.u_int rfl 2 rfl rfl) rfl ?_)
        | (refine wv h (r_ldN h rfl K.u_int rfl 3 rfl rfl) rfl ?_)
        | (refine wv h (r_ldN h rfl K.u_int rfl 4 rfl rfl) rfl ?_)
        | (refine wv h (r_ldN h rfl K.u_int rfl 5 rfl rfl) rfl ?_)
        | (refine wv h (r_ldN h rfl K.u_int rfl 6 rfl rfl) rfl ?_)
        | (refine wv h (r_ldC (o := 5) h rfl K.u_int rfl 0 rfl) rfl ?_)
        | (refine wv h (r_ldC (o := 5) h rfl K.u_int rfl 1 rfl) rfl ?_)
        | (refine wv h (r_ldC (o := 5) h rfl K.u_int rfl 2 rfl) rfl ?_)
        | (refine wv h (r_ldC (o := 5) h rfl K.u_int rfl 3 rfl) rfl ?_)
        | (refine wv h (r_ldC (o := 5) h rfl K.u_int rfl 4 rfl) rfl ?_)
        | (refine wv h (r_ldC (o := 5) h rfl K.u_int rfl 5 rfl) rfl ?_)
        | (refine wv h (r_ldC (o := 5) h rfl K.u_int rfl 6 rfl) rfl ?_)
        | (refine wv h (r_load h rfl K.u_int rfl 0 rfl rfl) rfl ?_)
        | (refine wv h (r_load h rfl K.u_int rfl 1 rfl rfl) rfl ?_)
        | (refine wv h (r_load h rfl K.u_int rfl 2 rfl rfl) rfl ?_)
        | (refine wv h (r_load h rfl K.u_int rfl 3 rfl rfl) rfl ?_)
        | (refine wv h (r_load h rfl K.u_int rfl 4 rfl rfl) rfl ?_)
        | (refine wv h (r_load h rfl K.u_int rfl 5 rfl rfl) rfl ?_)
        | (refine wv h (r_load1 h rfl K.u_int rfl (by assumption)) rfl ?_)
      clear h a w; intro a w h
      refine wv h (r_fieldAddr h 6 rfl K.u_api_Elem rfl K.sz_int rfl rfl) rfl ?_
      clear h a w; intro a w h
      first
        | (refine wv h (r_ldN h rfl K.u_int rfl 0 rfl rfl) rfl ?_)
        | (refine wv h (r_ldN h rfl K.u_int rfl 1 rfl rfl) rfl ?_)
        | (refine wv h (r_ldN h rfl K.u_int rfl 2 rfl rfl) rfl ?_)
        | (refine wv h (r_ldN h rfl K.u_int rfl 3 rfl rfl) rfl ?_)
        | (refine wv h (r_ldN h rfl K.u_int rfl 4 rfl rfl) rfl ?_)
        | (refine wv h (r_ldN h rfl K.u_int rfl 5 rfl rfl) rfl ?_)
        | (refine wv h (r_ldN h rfl K.u_int rfl 6 rfl rfl) rfl ?_)
        | (refine wv h (r_ldC (o := 6) h rfl K.u_int rfl 0 rfl) rfl ?_)
        | (refine wv h (r_ldC (o := 6) h rfl K.u_int rfl 1 rfl) rfl ?_)
        | (refine wv h (r_ldC (o := 6) h rfl K.u_int rfl 2 rfl) rfl ?_)
        | (refine wv h (r_ldC (o := 6) h rfl K.u_int rfl 3 rfl) rfl ?_)
        | (refine wv h (r_ldC (o := 6) h rfl K.u_int rfl 4 rfl) rfl ?_)
        | (refine wv h (r_ldC (o := 6) h rfl K.u_int rfl 5 rfl) rfl ?_)
        | (refine wv h (r_ldC (o := 6) h rfl K.u_int rfl 6 rfl) rfl ?_)
        | (refine wv h (r_load h rfl K.u_int rfl 0 rfl rfl) rfl ?_)
        | (refine wv h (r_load h rfl K.u_int rfl 1 rfl rfl) rfl ?_)
        | (refine wv h (r_load h rfl K.u_int rfl 2 rfl rfl) rfl ?_)
        | (refine wv h (r_load h rfl K.u_int rfl 3 rfl rfl) rfl ?_)
        | (refine wv h (r_load h rfl K.u_int rfl 4 rfl rfl) rfl ?_)
        | (refine wv h (r_load h rfl K.u_int rfl 5 rfl rfl) rfl ?_)
        | (refine wv h (r_load1 h rfl K.u_int rfl (by assumption)) rfl ?_)
      clear h a w; intro a w h
      refine wl rfl (op_buildSlice h K.u_S_int K.sz_int K.z_int rfl rfl rfl rfl rfl (by simp [Value.cells, bv, w32, w64, sv]) rfl ?_)
      clear h a w; intro b42 a w h
      replace h := h.toOwnL (enc := Value.int .i64) (numsE last e) (NF.zero _) rfl rfl rfl
      refine wv h (r_lenV h rfl K.u_S_int (by first | exact Views.own 0 rfl | exact Views.own 1 rfl | exact Views.own 2 rfl | exact Views.own 3 rfl | exact Views.own 4 rfl | exact Views.own 5 rfl | assumption | exact Views.of_drop 1 (by assumption) | exact Views.of_drop 2 (by assumption) | exact Views.of_drop 3 (by assumption) | exact Views.of_drop 4 (by assumption) | exact Views.of_drop 5 (by assumption) | exact Views.of_drop 6 (by assumption) | exact Views.of_drop 7 (by assumption) | exact Views.of_drop 8 (by assumption) | exact Views.of_drop 9 (by assumption) | exact Views.of_drop 10 (by assumption) | exact Views.of_drop 11 (by assumption) | exact Views.of_drop 12 (by assumption))) rfl ?_
      clear h a w; intro a w h
      refine wv h (r_move h rfl) rfl ?_
      clear h a w; intro a w h
      refine wnil (c_then ?_)
      refine c_block ?_
      obtain ⟨v42, hv42⟩ : ∃ v : Value, v = .slice (some ⟨b42, 0, none⟩) 6 6 := ⟨_, rfl⟩
      rw [show (numsE last e).length = 6 from rfl, ← hv42] at h
      refine c_loopX h (X := Nat × Value) (fun x => [(0, v), (3, x.2), (5, .int .i64 (i : Int)), (6, .pointer (some ⟨b6, 0, none⟩)), (42, v42), (43, .int .i64 6), (44, .int .i64 (x.1 : Int))]) (fun x => OwnL (Value.int .i64) v42 (numsE last e) :: Blk b6 (.cells ⟨cellsE e⟩ t_api_Elem) :: OwnB x.2 (A ++ encNums ((numsE last e).take x.1)) :: F)
        (fun x => x.1 ≤ 6) (fun x => 6 - x.1) (0, pv) ⟨(h.keep [0, 3, 5, 6, 42, 43, 44]).1, by rw [List.take_zero, show encNums [] = [] from rfl, List.append_nil]; exact h.2⟩ (Nat.zero_le _) ?_
      clear h a w; intro x a w hxj h
      obtain ⟨j, pw⟩ := x
      replace hxj : j ≤ 6 := hxj
      dsimp only at h
      have hA1 : (A ++ encNums ((numsE last e).take j)).length ≤ 7060 := by
        have := encNums_len ((numsE last e).take j) (fun n hn => (hnn n (List.mem_of_mem_take hn)).2)
        simp only [List.length_append, List.length_take] at this ⊢; omega
      as_aux_lemma =>
        refine c_seq (c_region ?_)
        refine wv h (r_bin h rfl rfl (B.lss_int)) rfl ?_
        clear h a w; intro a w h
        refine wnil (c_then ?_)
        refine c_seq ?_
        first
          | refine c_condD h rfl (fun ht2 => ?_) (fun ht2 => ?_)
          | refine c_condP h rfl (by first | (simp only [Bool.and_eq_true, Bool.or_eq_true, Bool.not_eq_true', decide_eq_true_eq, decide_eq_false_iff_not, ne_eq, Bool.not_eq_eq_eq_not, Bool.not_true, beq_iff_eq, bne_iff_ne]; exact Iff.rfl) | exact Iff.rfl) (fun ht2 => ?_) (fun ht2 => ?_)
        ·
          have hsn := encNums_snoc (l := numsE last e) (j := j) (by omega)
          have hbn : 0 ≤ (numsE last e).getD j 0 ∧ (numsE last e).getD j 0 ≤ 100000000 := hnn _ (by rw [List.getD_eq_getElem?_getD, List.getElem?_eq_getElem (by omega)]; exact List.getElem_mem _)
          obtain ⟨m, hm⟩ : ∃ m, m = ((numsE last e).getD j 0).toNat := ⟨_, rfl⟩
          have hm2 : (numsE last e).getD j 0 = (m : Int) := by omega
          have hml := numN_len9 m (by omega)
          rw [← hm] at hsn
          refine c_skip ?_
          refine c_then ?_
          refine c_seq ?_
          refine c_block ?_
          refine c_seq (c_region ?_)
          refine wv h (r_elP h rfl rfl K.u_S_int K.sz_int (by first | exact Views.own 0 rfl | exact Views.own 1 rfl | exact Views.own 2 rfl | exact Views.own 3 rfl | exact Views.own 4 rfl | exact Views.own 5 rfl | assumption | exact Views.of_drop 1 (by assumption) | exact Views.of_drop 2 (by assumption) | exact Views.of_drop 3 (by assumption) | exact Views.of_drop 4 (by assumption) | exact Views.of_drop 5 (by assumption) | exact Views.of_drop 6 (by assumption) | exact Views.of_drop 7 (by assumption) | exact Views.of_drop 8 (by assumption) | exact Views.of_drop 9 (by assumption) | exact Views.of_drop 10 (by assumption) | exact Views.of_drop 11 (by assumption) | exact Views.of_drop 12 (by assumption)) (by first | omega | (simp; done)) (by first | omega | (simp only [List.length_cons, List.length_nil]; omega) | (simp; done) | (simp; omega))) rfl ?_
          clear h a w; intro a w h
          refine wv h (r_eli h rfl K.u_int rfl (by first | exact Views.own 0 rfl | exact Views.own 1 rfl | exact Views.own 2 rfl | exact Views.own 3 rfl | exact Views.own 4 rfl | exact Views.own 5 rfl | assumption | exact Views.of_drop 1 (by assumption) | exact Views.of_drop 2 (by assumption) | exact Views.of_drop 3 (by assumption) | exact Views.of_drop 4 (by assumption) | exact Views.of_drop 5 (by assumption) | exact Views.of_drop 6 (by assumption) | exact Views.of_drop 7 (by assumption) | exact Views.of_drop 8 (by assumption) | exact Views.of_drop 9 (by assumption) | exact Views.of_drop 10 (by assumption) | exact Views.of_drop 11 (by assumption) | exact Views.of_drop 12 (by assumption)) (by first | omega | (simp only [List.length_cons, List.length_nil]; omega) | (simp; done) | (simp; omega))) rfl ?_
          clear h a w; intro a w h
          rw [hm2] at h
          refine wv h (r_assign h rfl) rfl ?_
          clear h a w; intro a w h
          refine wnil (c_then ?_)
          refine c_region ?_
          refine wv h (r_move h rfl) rfl ?_
          clear h a w; intro a w h
          refine wv h (r_move h rfl) rfl ?_
          clear h a w; intro a w h
          refine wl rfl (op_call h rfl K.go_ref01_Num (ref_num s _ m _ (by omega) h.2) rfl ?_)
          clear h a w; intro v50 a w hx2 h
          (try simp only [List.set_cons_zero, List.set_cons_succ] at h)
          first
            | (refine wl rfl (op_appendbs h rfl rfl K.u_S_uint8 K.sz_uint8 K.z_uint8 rfl rfl 0 rfl (Src.bytes K.u_S_uint8 (by first | exact ViewsB.own 0 rfl | exact ViewsB.own 1 rfl | exact ViewsB.own 2 rfl | exact ViewsB.own 3 rfl | exact ViewsB.own 4 rfl | exact ViewsB.own 5 rfl | assumption | exact ViewsB.nil _ | exact ViewsB.arr 0 rfl (by first | assumption | rfl | (simp; done)) (Nat.le_refl _) (by simp [maxLen]) | exact ViewsB.arr 1 rfl (by first | assumption | rfl | (simp; done)) (Nat.le_refl _) (by simp [maxLen]) | exact ViewsB.arr 2 rfl (by first | assumption | rfl | (simp; done)) (Nat.le_refl _) (by simp [maxLen]) | exact ViewsB.arr 3 rfl (by first | assumption | rfl | (simp; done)) (Nat.le_refl _) (by simp [maxLen]) | exact ViewsB.arr 4 rfl (by first | assumption | rfl | (simp; done)) (Nat.le_refl _) (by simp [maxLen]) | exact ViewsB.of_drop 1 (by assumption) | exact ViewsB.of_drop 2 (by assumption) | exact ViewsB.of_drop 3 (by assumption) | exact ViewsB.of_drop 4 (by assumption) | exact ViewsB.of_drop 5 (by assumption) | exact ViewsB.of_drop 6 (by assumption) | exact ViewsB.of_drop 7 (by assumption) | exact ViewsB.of_drop 8 (by assumption) | exact ViewsB.of_drop 9 (by assumption) | exact ViewsB.of_drop 10 (by assumption) | exact ViewsB.of_drop 11 (by assumption) | exact ViewsB.of_drop 12 (by assumption) | exact ViewsB.sub (by first | exact ViewsB.own 0 rfl | exact ViewsB.own 1 rfl | exact ViewsB.own 2 rfl | exact ViewsB.own 3 rfl | exact ViewsB.own 4 rfl | exact ViewsB.own 5 rfl | assumption | exact ViewsB.nil _ | exact ViewsB.arr 0 rfl (by first | assumption | rfl | (simp; done)) (Nat.le_refl _) (by simp [maxLen]) | exact ViewsB.arr 1 rfl (by first | assumption | rfl | (simp; done)) (Nat.le_refl _) (by simp [maxLen]) | exact ViewsB.arr 2 rfl (by first | assumption | rfl | (simp; done)) (Nat.le_refl _) (by simp [maxLen]) | exact ViewsB.arr 3 rfl (by first | assumption | rfl | (simp; done)) (Nat.le_refl _) (by simp [maxLen]) | exact ViewsB.arr 4 rfl (by first | assumption | rfl | (simp; done)) (Nat.le_refl _) (by simp [maxLen]) | exact ViewsB.of_drop 1 (by assumption) | exact ViewsB.of_drop 2 (by assumption) | exact ViewsB.of_drop 3 (by assumption) | exact ViewsB.of_drop 4 (by assumption) | exact ViewsB.of_drop 5 (by assumption) | exact ViewsB.of_drop 6 (by assumption) | exact ViewsB.of_drop 7 (by assumption) | exact ViewsB.of_drop 8 (by assumption) | exact ViewsB.of_drop 9 (by assumption) | exact ViewsB.of_drop 10 (by assumption) | exact ViewsB.of_drop 11 (by assumption) | exact ViewsB.of_drop 12 (by assumption)) (by omega) (by first | omega | (simp; done) | (simp; omega))) h.2) (by first | omega | (simp only [List.length_cons, List.length_nil]; omega) | (simp; done) | (simp; omega)) rfl ?_))
            | (refine wl rfl (op_appendbs h rfl rfl K.u_S_uint8 K.sz_uint8 K.z_uint8 rfl rfl 1 rfl (Src.bytes K.u_S_uint8 (by first | exact ViewsB.own 0 rfl | exact ViewsB.own 1 rfl | exact ViewsB.own 2 rfl | exact ViewsB.own 3 rfl | exact ViewsB.own 4 rfl | exact ViewsB.own 5 rfl | assumption | exact ViewsB.nil _ | exact ViewsB.arr 0 rfl (by first | assumption | rfl | (simp; done)) (Nat.le_refl _) (by simp [maxLen]) | exact ViewsB.arr 1 rfl (by first | assumption | rfl | (simp; done)) (Nat.le_refl _) (by simp [maxLen]) | exact ViewsB.arr 2 rfl (by first | assumption | rfl | (simp; done)) (Nat.le_refl _) (by simp [maxLen]) | exact ViewsB.arr 3 rfl (by first | assumption | rfl | (simp; done)) (Nat.le_refl _) (by simp [maxLen]) | exact ViewsB.arr 4 rfl (by first | assumption | rfl | (simp; done)) (Nat.le_refl _) (by simp [maxLen]) | exact ViewsB.of_drop 1 (by assumption) | exact ViewsB.of_drop 2 (by assumption) | exact ViewsB.of_drop 3 (by assumption) | exact ViewsB.of_drop 4 (by assumption) | exact ViewsB.of_drop 5 (by assumption) | exact ViewsB.of_drop 6 (by assumption) | exact ViewsB.of_drop 7 (by assumption) | exact ViewsB.of_drop 8 (by assumption) | exact ViewsB.of_drop 9 (by assumption) | exact ViewsB.of_drop 10 (by assumption) | exact ViewsB.of_drop 11 (by assumption) | exact ViewsB.of_drop 12 (by assumption) | exact ViewsB.sub (by first | exact ViewsB.own 0 rfl | exact ViewsB.own 1 rfl | exact ViewsB.own 2 rfl | exact ViewsB.own 3 rfl | exact ViewsB.own 4 rfl | exact ViewsB.own 5 rfl | assumption | exact ViewsB.nil _ | exact ViewsB.arr 0 rfl (by first | assumption | rfl | (simp; done)) (Nat.le_refl _) (by simp [maxLen]) | exact ViewsB.arr 1 rfl (by first | assumption | rfl | (simp; done)) (Nat.le_refl _) (by simp [maxLen]) | exact ViewsB.arr 2 rfl (by first | assumption | rfl | (simp; done)) (Nat.le_refl _) (by simp [maxLen]) | exact ViewsB.arr 3 rfl (by first | assumption | rfl | (simp; done)) (Nat.le_refl _) (by simp [maxLen]) | exact ViewsB.arr 4 rfl (by first | assumption | rfl | (simp; done)) (Nat.le_refl _) (by simp [maxLen]) | exact ViewsB.of_drop 1 (by assumption) | exact ViewsB.of_drop 2 (by assumption) | exact ViewsB.of_drop 3 (by assumption) | exact ViewsB.of_drop 4 (by assumption) | exact ViewsB.of_drop 5 (by assumption) | exact ViewsB.of_drop 6 (by assumption) | exact ViewsB.of_drop 7 (by assumption) | exact ViewsB.of_drop 8 (by assumption) | exact ViewsB.of_drop 9 (by assumption) | exact ViewsB.of_drop 10 (by assumption) | exact ViewsB.of_drop 11 (by assumption) | exact ViewsB.of_drop 12 (by assumption)) (by omega) (by first | omega | (simp; done) | (simp; omega))) h.2) (by first | omega | (simp only [List.length_cons, List.length_nil]; omega) | (simp; done) | (simp; omega)) rfl ?_))
            | (refine wl rfl (op_appendbs h rfl rfl K.u_S_uint8 K.sz_uint8 K.z_uint8 rfl rfl 2 rfl (Src.bytes K.u_S_uint8 (by first | exact ViewsB.own 0 rfl | exact ViewsB.own 1 rfl | exact ViewsB.own 2 rfl | exact ViewsB.own 3 rfl | exact ViewsB.own 4 rfl | exact ViewsB.own 5 rfl | assumption | exact ViewsB.nil _ | exact ViewsB.arr 0 rfl (by first | assumption | rfl | (simp; done)) (Nat.le_refl _) (by simp [maxLen]) | exact ViewsB.arr 1 rfl (by first | assumption | rfl | (simp; done)) (Nat.le_refl _) (by simp [maxLen]) | exact ViewsB.arr 2 rfl (by first | assumption | rfl | (simp; done)) (Nat.le_refl _) (by simp [maxLen]) | exact ViewsB.arr 3 rfl (by first | assumption | rfl | (simp; done)) (Nat.le_refl _) (by simp [maxLen]) | exact ViewsB.arr 4 rfl (by first | assumption | rfl | (simp; done)) (Nat.le_refl _) (by simp [maxLen]) | exact ViewsB.of_drop 1 (by assumption) | exact ViewsB.of_drop 2 (by assumption) | exact ViewsB.of_drop 3 (by assumption) | exact ViewsB.of_drop 4 (by assumption) | exact ViewsB.of_drop 5 (by assumption) | exact ViewsB.of_drop 6 (by assumption) | exact ViewsB.of_drop 7 (by assumption) | exact ViewsB.of_drop 8 (by assumption) | exact ViewsB.of_drop 9 (by assumption) | exact ViewsB.of_drop 10 (by assumption) | exact ViewsB.of_drop 11 (by assumption) | exact ViewsB.of_drop 12 (by assumption) | exact ViewsB.sub (by first | exact ViewsB.own 0 rfl | exact ViewsB.own 1 rfl | exact ViewsB.own 2 rfl | exact ViewsB.own 3 rfl | exact ViewsB.own 4 rfl | exact ViewsB.own 5 rfl | assumption | exact ViewsB.nil _ | exact ViewsB.arr 0 rfl (by first | assumption | rfl | (simp; done)) (Nat.le_refl _) (by simp [maxLen]) | exact ViewsB.arr 1 rfl (by first | assumption | rfl | (simp; done)) (Nat.le_refl _) (by simp [maxLen]) | exact ViewsB.arr 2 rfl (by first | assumption | rfl | (simp; done)) (Nat.le_refl _) (by simp [maxLen]) | exact ViewsB.arr 3 rfl (by first | assumption | rfl | (simp; done)) (Nat.le_refl _) (by simp [maxLen]) | exact ViewsB.arr 4 rfl (by first | assumption | rfl | (simp; done)) (Nat.le_refl _) (by simp [maxLen]) | exact ViewsB.of_drop 1 (by assumption) | exact ViewsB.of_drop 2 (by assumption) | exact ViewsB.of_drop 3 (by assumption) | exact ViewsB.of_drop 4 (by assumption) | exact ViewsB.of_drop 5 (by assumption) | exact ViewsB.of_drop 6 (by assumption) | exact ViewsB.of_drop 7 (by assumption) | exact ViewsB.of_drop 8 (by assumption) | exact ViewsB.of_drop 9 (by assumption) | exact ViewsB.of_drop 10 (by assumption) | exact ViewsB.of_drop 11 (by assumption) | exact ViewsB.of_drop 12 (by assumption)) (by omega) (by first | omega | (simp; done) | (simp; omega))) h.2) (by first | omega | (simp only [List.length_cons, List.length_nil]; omega) | (simp; done) | (simp; omega)) rfl ?_))
            | (refine wl rfl (op_appendbs h rfl rfl K.u_S_uint8 K.sz_uint8 K.z_uint8 rfl rfl 3 rfl (Src.bytes K.u_S_uint8 (by first | exact ViewsB.own 0 rfl | exact ViewsB.own 1 rfl | exact ViewsB.own 2 rfl | exact ViewsB.own 3 rfl | exact ViewsB.own 4 rfl | exact ViewsB.own 5 rfl | assumption | exact ViewsB.nil _ | exact ViewsB.arr 0 rfl (by first | assumption | rfl | (simp; done)) (Nat.le_refl _) (by simp [maxLen]) | exact ViewsB.arr 1 rfl (by first | assumption | rfl | (simp; done)) (Nat.le_refl _) (by simp [maxLen]) | exact ViewsB.arr 2 rfl (by first | assumption | rfl | (simp; done)) (Nat.le_refl _) (by simp [maxLen]) | exact ViewsB.arr 3 rfl (by first | assumption | rfl | (simp; done)) (Nat.le_refl _) (by simp [maxLen]) | exact ViewsB.arr 4 rfl (by first | assumption | rfl | (simp; done)) (Nat.le_refl _) (by simp [maxLen]) | exact ViewsB.of_drop 1 (by assumption) | exact ViewsB.of_drop 2 (by assumption) | exact ViewsB.of_drop 3 (by assumption) | exact ViewsB.of_drop 4 (by assumption) | exact ViewsB.of_drop 5 (by assumption) | exact ViewsB.of_drop 6 (by assumption) | exact ViewsB.of_drop 7 (by assumption) | exact ViewsB.of_drop 8 (by assumption) | exact ViewsB.of_drop 9 (by assumption) | exact ViewsB.of_drop 10 (by assumption) | exact ViewsB.of_drop 11 (by assumption) | exact ViewsB.of_drop 12 (by assumption) | exact ViewsB.sub (by first | exact ViewsB.own 0 rfl | exact ViewsB.own 1 rfl | exact ViewsB.own 2 rfl | exact ViewsB.own 3 rfl | exact ViewsB.own 4 rfl | exact ViewsB.own 5 rfl | assumption | exact ViewsB.nil _ | exact ViewsB.arr 0 rfl (by first | assumption | rfl | (simp; done)) (Nat.le_refl _) (by simp [maxLen]) | exact ViewsB.arr 1 rfl (by first | assumption | rfl | (simp; done)) (Nat.le_refl _) (by simp [maxLen]) | exact ViewsB.arr 2 rfl (by first | assumption | rfl | (simp; done)) (Nat.le_refl _) (by simp [maxLen]) | exact ViewsB.arr 3 rfl (by first | assumption | rfl | (simp; done)) (Nat.le_refl _) (by simp [maxLen]) | exact ViewsB.arr 4 rfl (by first | assumption | rfl | (simp; done)) (Nat.le_refl _) (by simp [maxLen]) | exact ViewsB.of_drop 1 (by assumption) | exact ViewsB.of_drop 2 (by assumption) | exact ViewsB.of_drop 3 (by assumption) | exact ViewsB.of_drop 4 (by assumption) | exact ViewsB.of_drop 5 (by assumption) | exact ViewsB.of_drop 6 (by assumption) | exact ViewsB.of_drop 7 (by assumption) | exact ViewsB.of_drop 8 (by assumption) | exact ViewsB.of_drop 9 (by assumption) | exact ViewsB.of_drop 10 (by assumption) | exact ViewsB.of_drop 11 (by assumption) | exact ViewsB.of_drop 12 (by assumption)) (by omega) (by first | omega | (simp; done) | (simp; omega))) h.2) (by first | omega | (simp only [List.length_cons, List.length_nil]; omega) | (simp; done) | (simp; omega)) rfl ?_))
            | (refine wl rfl (op_appendbs h rfl rfl K.u_S_uint8 K.sz_uint8 K.z_uint8 rfl rfl 4 rfl (Src.bytes K.u_S_uint8 (by first | exact ViewsB.own 0 rfl | exact ViewsB.own 1 rfl | exact ViewsB.own 2 rfl | exact ViewsB.own 3 rfl | exact ViewsB.own 4 rfl | exact ViewsB.own 5 rfl | assumption | exact ViewsB.nil _ | exact ViewsB.arr 0 rfl (by first | assumption | rfl | (simp; done)) (Nat.le_refl _) (by simp [maxLen]) | exact ViewsB.arr 1 rfl (by first | assumption | rfl | (simp; done)) (Nat.le_refl _) (by simp [maxLen]) | exact ViewsB.arr 2 rfl (by first | assumption | rfl | (simp; done)) (Nat.le_refl _) (by simp [maxLen]) | exact ViewsB.arr 3 rfl (by first | assumption | rfl | (simp; done)) (Nat.le_refl _) (by simp [maxLen]) | exact ViewsB.arr 4 rfl (by first | assumption | rfl | (simp; done)) (Nat.le_refl _) (by simp [maxLen]) | exact ViewsB.of_drop 1 (by assumption) | exact ViewsB.of_drop 2 (by assumption) | exact ViewsB.of_drop 3 (by assumption) | exact ViewsB.of_drop 4 (by assumption) | exact ViewsB.of_drop 5 (by assumption) | exact ViewsB.of_drop 6 (by assumption) | exact ViewsB.of_drop 7 (by assumption) | exact ViewsB.of_drop 8 (by assumption) | exact ViewsB.of_drop 9 (by assumption) | exact ViewsB.of_drop 10 (by assumption) | exact ViewsB.of_drop 11 (by assumption) | exact ViewsB.of_drop 12 (by assumption) | exact ViewsB.sub (by first | exact ViewsB.own 0 rfl | exact ViewsB.own 1 rfl | exact ViewsB.own 2 rfl | exact ViewsB.own 3 rfl | exact ViewsB.own 4 rfl | exact ViewsB.own 5 rfl | assumption | exact ViewsB.nil _ | exact ViewsB.arr 0 rfl (by first | assumption | rfl | (simp; done)) (Nat.le_refl _) (by simp [maxLen]) | exact ViewsB.arr 1 rfl (by first | assumption | rfl | (simp; done)) (Nat.le_refl _) (by simp [maxLen]) | exact ViewsB.arr 2 rfl (by first | assumption | rfl | (simp; done)) (Nat.le_refl _) (by simp [maxLen]) | exact ViewsB.arr 3 rfl (by first | assumption | rfl | (simp; done)) (Nat.le_refl _) (by simp [maxLen]) | exact ViewsB.arr 4 rfl (by first | assumption | rfl | (simp; done)) (Nat.le_refl _) (by simp [maxLen]) | exact ViewsB.of_drop 1 (by assumption) | exact ViewsB.of_drop 2 (by assumption) | exact ViewsB.of_drop 3 (by assumption) | exact ViewsB.of_drop 4 (by assumption) | exact ViewsB.of_drop 5 (by assumption) | exact ViewsB.of_drop 6 (by assumption) | exact ViewsB.of_drop 7 (by assumption) | exact ViewsB.of_drop 8 (by assumption) | exact ViewsB.of_drop 9 (by assumption) | exact ViewsB.of_drop 10 (by assumption) | exact ViewsB.of_drop 11 (by assumption) | exact ViewsB.of_drop 12 (by assumption)) (by omega) (by first | omega | (simp; done) | (simp; omega))) h.2) (by first | omega | (simp only [List.length_cons, List.length_nil]; omega) | (simp; done) | (simp; omega)) rfl ?_))
            | (refine wl rfl (op_appendbs h rfl rfl K.u_S_uint8 K.sz_uint8 K.z_uint8 rfl rfl 5 rfl (Src.bytes K.u_S_uint8 (by first | exact ViewsB.own 0 rfl | exact ViewsB.own 1 rfl | exact ViewsB.own 2 rfl | exact ViewsB.own 3 rfl | exact ViewsB.own 4 rfl | exact ViewsB.own 5 rfl | assumption | exact ViewsB.nil _ | exact ViewsB.arr 0 rfl (by first | assumption | rfl | (simp; done)) (Nat.le_refl _) (by simp [maxLen]) | exact ViewsB.arr 1 rfl (by first | assumption | rfl | (simp; done)) (Nat.le_refl _) (by simp [maxLen]) | exact ViewsB.arr 2 rfl (by first | assumption | rfl | (simp; done)) (Nat.le_refl _) (by simp [maxLen]) | exact ViewsB.arr 3 rfl (by first | assumption | rfl | (simp; done)) (Nat.le_refl _) (by simp [maxLen]) | exact ViewsB.arr 4 rfl (by first | assumption | rfl | (simp; done)) (Nat.le_refl _) (by simp [maxLen]) | exact ViewsB.of_drop 1 (by assumption) | exact ViewsB.of_drop 2 (by assumption) | exact ViewsB.of_drop 3 (by assumption) | exact ViewsB.of_drop 4 (by assumption) | exact ViewsB.of_drop 5 (by assumption) | exact ViewsB.of_drop 6 (by assumption) | exact ViewsB.of_drop 7 (by assumption) | exact ViewsB.of_drop 8 (by assumption) | exact ViewsB.of_drop 9 (by assumption) | exact ViewsB.of_drop 10 (by assumption) | exact ViewsB.of_drop 11 (by assumption) | exact ViewsB.of_drop 12 (by assumption) | exact ViewsB.sub (by first | exact ViewsB.own 0 rfl | exact ViewsB.own 1 rfl | exact ViewsB.own 2 rfl | exact ViewsB.own 3 rfl | exact ViewsB.own 4 rfl | exact ViewsB.own 5 rfl | assumption | exact ViewsB.nil _ | exact ViewsB.arr 0 rfl (by first | assumption | rfl | (simp; done)) (Nat.le_refl _) (by simp [maxLen]) | exact ViewsB.arr 1 rfl (by first | assumption | rfl | (simp; done)) (Nat.le_refl _) (by simp [maxLen]) | exact ViewsB.arr 2 rfl (by first | assumption | rfl | (simp; done)) (Nat.le_refl _) (by simp [maxLen]) | exact ViewsB.arr 3 rfl (by first | assumption | rfl | (simp; done)) (Nat.le_refl _) (by simp [maxLen]) | exact ViewsB.arr 4 rfl (by first | assumption | rfl | (simp; done)) (Nat.le_refl _) (by simp [maxLen]) | exact ViewsB.of_drop 1 (by assumption) | exact ViewsB.of_drop 2 (by assumption) | exact ViewsB.of_drop 3 (by assumption) | exact ViewsB.of_drop 4 (by assumption) | exact ViewsB.of_drop 5 (by assumption) | exact ViewsB.of_drop 6 (by assumption) | exact ViewsB.of_drop 7 (by assumption) | exact ViewsB.of_drop 8 (by assumption) | exact ViewsB.of_drop 9 (by assumption) | exact ViewsB.of_drop 10 (by assumption) | exact ViewsB.of_drop 11 (by assumption) | exact ViewsB.of_drop 12 (by assumption)) (by omega) (by first | omega | (simp; done) | (simp; omega))) h.2) (by first | omega | (simp only [List.length_cons, List.length_nil]; omega) | (simp; done) | (simp; omega)) rfl ?_))
          clear h a w; intro v51 a w h
          (try simp only [List.set_cons_zero, List.set_cons_succ] at h)
          refine wv h (r_assign h rfl) rfl ?_
          clear h a w; intro a w h
          refine wnil ?_
          refine b_normal ?_
          refine c_then ?_
          refine c_region ?_
          refine wv h (r_bin h rfl rfl (B.add_i64 (by omega) (by omega))) rfl ?_
          clear h a w; intro a w h
          refine wv h (r_move h rfl) rfl ?_
          clear h a w; intro a w h
          refine wnil ?_
          refine ⟨(j + 1, v51), ⟨(h.keep [0, 3, 5, 6, 42, 43, 44]).1, ?_⟩, by show j + 1 ≤ 6; omega, by show 6 - (j + 1) < 6 - j; omega⟩
          have h2 := h.2.drop 1
          show Sat s w (OwnL (Value.int .i64) v42 (numsE last e) :: Blk b6 (.cells ⟨cellsE e⟩ t_api_Elem) :: OwnB v51 (A ++ encNums ((numsE last e).take (j + 1))) :: F)
          rw [hsn, ← List.append_assoc]
          exact h2
        ·
          obtain rfl : j = 6 := by omega
          rw [List.take_of_length_le (by omega)] at h hA1
          generalize hA2 : A ++ encNums (numsE last e) = A2 at h hA1
          rw [← List.append_assoc, hA2] at hAe
          replace h : St 75 s a w _ (Blk b6 (.cells ⟨cellsE e⟩ t_api_Elem) :: OwnB pw A2 :: F) := h.mem (fun z => z.drop 1)
          refine c_exit ?_
          refine e_then ?_
          refine e_then ?_
          refine e_here ?_
          refine c_then ?_
          refine c_seq ?_
          refine c_seq (c_region ?_)
          refine wv h (r_fieldAddr h 4 rfl K.u_api_Elem rfl K.sz_string rfl rfl) rfl ?_
          clear h a w; intro a w h
          first
            | (refine wv h (r_ldN h rfl K.u_string rfl 0 rfl rfl) rfl ?_)
            | (refine wv h (r_ldN h rfl K.u_string rfl 1 rfl rfl) rfl ?_)
            | (refine wv h (r_ldN h rfl K.u_string rfl 2 rfl rfl) rfl ?_)
            | (refine wv h (r_ldN h rfl K.u_string rfl 3 rfl rfl) rfl ?_)
            | (refine wv h (r_ldN h rfl K.u_string rfl 4 rfl rfl) rfl ?_)
            | (refine wv h (r_ldN h rfl K.u_string rfl 5 rfl rfl) rfl ?_)
            | (refine wv h (r_ldN h rfl K.u_string rfl 6 rfl rfl) rfl ?_)
            | (refine wv h (r_ldC (o := 4) h rfl K.u_string rfl 0 rfl) rfl ?_)
            | (refine wv h (r_ldC (o := 4) h rfl K.u_string rfl 1 rfl) rfl ?_)
            | (refine wv h (r_ldC (o := 4) h rfl K.u_string rfl 2 rfl) rfl ?_)
            | (refine wv h (r_ldC (o := 4) h rfl K.u_string rfl 3 rfl) rfl ?_)
            | (refine wv h (r_ldC (o := 4) h rfl K.u_string rfl 4 rfl) rfl ?_)
            | (refine wv h (r_ldC (o := 4) h rfl K.u_string rfl 5 rfl) rfl ?_)
            | (refine wv h (r_ldC (o := 4) h rfl K.u_string rfl 6 rfl) rfl ?_)
            | (refine wv h (r_load h rfl K.u_string rfl 0 rfl rfl) rfl ?_)
            | (refine wv h (r_load h rfl K.u_string rfl 1 rfl rfl) rfl ?_)
            | (refine wv h (r_load h rfl K.u_string rfl 2 rfl rfl) rfl ?_)
            | (refine wv h (r_load h rfl K.u_string rfl 3 rfl rfl) rfl ?_)
            | (refine wv h (r_load h rfl K.u_string rfl 4 rfl rfl) rfl ?_)
            | (refine wv h (r_load h rfl K.u_string rfl 5 rfl rfl) rfl ?_)
            | (refine wv h (r_load1 h rfl K.u_string rfl (by assumption)) rfl ?_)
          clear h a w; intro a w h
          refine wv h (r_fieldAddr h 7 rfl K.u_api_Elem rfl K.sz_string rfl rfl) rfl ?_
          clear h a w; intro a w h
          first
            | (refine wv h (r_ldN h rfl K.u_string rfl 0 rfl rfl) rfl ?_)
            | (refine wv h (r_ldN h rfl K.u_string rfl 1 rfl rfl) rfl ?_)
            | (refine wv h (r_ldN h rfl K.u_string rfl 2 rfl rfl) rfl ?_)
            | (refine wv h (r_ldN h rfl K.u_string rfl 3 rfl rfl) rfl ?_)
            | (refine wv h (r_ldN h rfl K.u_string rfl 4 rfl rfl) rfl ?_)
            | (refine wv h (r_ldN h rfl K.u_string rfl 5 rfl rfl) rfl ?_)
            | (refine wv h (r_ldN h rfl K.u_string rfl 6 rfl rfl) rfl ?_)
            | (refine wv h (r_ldC (o := 7) h rfl K.u_string rfl 0 rfl) rfl ?_)
            | (refine wv h (r_ldC (o := 7) h rfl K.u_string rfl 1 rfl) rfl ?_)
            | (refine wv h (r_ldC (o := 7) h rfl K.u_string rfl 2 rfl) rfl ?_)
            | (refine wv h (r_ldC (o := 7) h rfl K.u_string rfl 3 rfl) rfl ?_)
            | (refine wv h (r_ldC (o := 7) h rfl K.u_string rfl 4 rfl) rfl ?_)
            | (refine wv h (r_ldC (o := 7) h rfl K.u_string rfl 5 rfl) rfl ?_)
            | (refine wv h (r_ldC (o := 7) h rfl K.u_string rfl 6 rfl) rfl ?_)
            | (refine wv h (r_load h rfl K.u_string rfl 0 rfl rfl) rfl ?_)
            | (refine wv h (r_load h rfl K.u_string rfl 1 rfl rfl) rfl ?_)
            | (refine wv h (r_load h rfl K.u_string rfl 2 rfl rfl) rfl ?_)
            | (refine wv h (r_load h rfl K.u_string rfl 3 rfl rfl) rfl ?_)
            | (refine wv h (r_load h rfl K.u_string rfl 4 rfl rfl) rfl ?_)
            | (refine wv h (r_load h rfl K.u_string rfl 5 rfl rfl) rfl ?_)
            | (refine wv h (r_load1 h rfl K.u_string rfl (by assumption)) rfl ?_)
          clear h a w; intro a w h
          refine wv h (r_fieldAddr h 8 rfl K.u_api_Elem rfl K.sz_string rfl rfl) rfl ?_
          clear h a w; intro a w h
          first
            | (refine wv h (r_ldN h rfl K.u_string rfl 0 rfl rfl) rfl ?_)
            | (refine wv h (r_ldN h rfl K.u_string rfl 1 rfl rfl) rfl ?_)
            | (refine wv h (r_ldN h rfl K.u_string rfl 2 rfl rfl) rfl ?_)
            | (refine wv h (r_ldN h rfl K.u_string rfl 3 rfl rfl) rfl ?_)
            | (refine wv h (r_ldN h rfl K.u_string rfl 4 rfl rfl) rfl ?_)
            | (refine wv h (r_ldN h rfl K.u_string rfl 5 rfl rfl) rfl ?_)
            | (refine wv h (r_ldN h rfl K.u_string rfl 6 rfl rfl) rfl ?_)
            | (refine wv h (r_ldC (o := 8) h rfl K.u_string rfl 0 rfl) rfl ?_)
            | (refine wv h (r_ldC (o := 8) h rfl K.u_string rfl 1 rfl) rfl ?_)
            | (refine wv h (r_ldC (o := 8) h rfl K.u_string rfl 2 rfl) rfl ?_)
            | (refine wv h (r_ldC (o := 8) h rfl K.u_string rfl 3 rfl) rfl ?_)
            | (refine wv h (r_ldC (o := 8) h rfl K.u_string rfl 4 rfl) rfl ?_)
            | (refine wv h (r_ldC (o := 8) h rfl K.u_string rfl 5 rfl) rfl ?_)
            | (refine wv h (r_ldC (o := 8) h rfl K.u_string rfl 6 rfl) rfl ?_)
            | (refine wv h (r_load h rfl K.u_string rfl 0 rfl rfl) rfl ?_)
            | (refine wv h (r_load h rfl K.u_string rfl 1 rfl rfl) rfl ?_)
            | (refine wv h (r_load h rfl K.u_string rfl 2 rfl rfl) rfl ?_)
            | (refine wv h (r_load h rfl K.u_string rfl 3 rfl rfl) rfl ?_)
            | (refine wv h (r_load h rfl K.u_string rfl 4 rfl rfl) rfl ?_)
            | (refine wv h (r_load h rfl K.u_string rfl 5 rfl rfl) rfl ?_)
            | (refine wv h (r_load1 h rfl K.u_string rfl (by assumption)) rfl ?_)
          clear h a w; intro a w h
          refine wv h (r_fieldAddr h 9 rfl K.u_api_Elem rfl K.sz_string rfl rfl) rfl ?_
          clear h a w; intro a w h
          first
            | (refine wv h (r_ldN h rfl K.u_string rfl 0 rfl rfl) rfl ?_)
            | (refine wv h (r_ldN h rfl K.u_string rfl 1 rfl rfl) rfl ?_)
            | (refine wv h (r_ldN h rfl K.u_string rfl 2 rfl rfl) rfl ?_)
            | (refine wv h (r_ldN h rfl K.u_string rfl 3 rfl rfl) rfl ?_)
            | (refine wv h (r_ldN h rfl K.u_string rfl 4 rfl rfl) rfl ?_)
            | (refine wv h (r_ldN h rfl K.u_string rfl 5 rfl rfl) rfl ?_)
            | (refine wv h (r_ldN h rfl K.u_string rfl 6 rfl rfl) rfl ?_)
            | (refine wv h (r_ldC (o := 9) h rfl K.u_string rfl 0 rfl) rfl ?_)
            | (refine wv h (r_ldC (o := 9) h rfl K.u_string rfl 1 rfl) rfl ?_)
            | (refine wv h (r_ldC (o := 9) h rfl K.u_string rfl 2 rfl) rfl ?_)
            | (refine wv h (r_ldC (o := 9) h rfl K.u_string rfl 3 rfl) rfl ?_)
            | (refine wv h (r_ldC (o := 9) h rfl K.u_string rfl 4 rfl) rfl ?_)
            | (refine wv h (r_ldC (o := 9) h rfl K.u_string rfl 5 rfl) rfl ?_)
            | (refine wv h (r_ldC (o := 9) h rfl K.u_string rfl 6 rfl) rfl ?_)
            | (refine wv h (r_load h rfl K.u_string rfl 0 rfl rfl) rfl ?_)
            | (refine wv h (r_load h rfl K.u_string rfl 1 rfl rfl) rfl ?_)
            | (refine wv h (r_load h rfl K.u_string rfl 2 rfl rfl) rfl ?_)
            | (refine wv h (r_load h rfl K.u_string rfl 3 rfl rfl) rfl ?_)
            | (refine wv h (r_load h rfl K.u_string rfl 4 rfl rfl) rfl ?_)
            | (refine wv h (r_load h rfl K.u_string rfl 5 rfl rfl) rfl ?_)
            | (refine wv h (r_load1 h rfl K.u_string rfl (by assumption)) rfl ?_)
          clear h a w; intro a w h
          refine wl rfl (op_buildSlice h K.u_S_string K.sz_string K.z_string rfl rfl rfl rfl rfl (by simp [Value.cells, bv, w32, w64, sv]) rfl ?_)
          clear h a w; intro b61 a w h
          replace h := h.toOwnL (enc := sv) (textsE e) (NF.zero _) rfl rfl rfl
          refine wv h (r_lenV h rfl K.u_S_string (by first | exact Views.own 0 rfl | exact Views.own 1 rfl | exact Views.own 2 rfl | exact Views.own 3 rfl | exact Views.own 4 rfl | exact Views.own 5 rfl | assumption | exact Views.of_drop 1 (by assumption) | exact Views.of_drop 2 (by assumption) | exact Views.of_drop 3 (by assumption) | exact Views.of_drop 4 (by assumption) | exact Views.of_drop 5 (by assumption) | exact Views.of_drop 6 (by assumption) | exact Views.of_drop 7 (by assumption) | exact Views.of_drop 8 (by assumption) | exact Views.of_drop 9 (by assumption) | exact Views.of_drop 10 (by assumption) | exact Views.of_drop 11 (by assumption) | exact Views.of_drop 12 (by assumption))) rfl ?_
          clear h a w; intro a w h
          refine wv h (r_move h rfl) rfl ?_
          clear h a w; intro a w h
          refine wnil (c_then ?_)
          refine c_block ?_
          obtain ⟨v61, hv61⟩ : ∃ v : Value, v = .slice (some ⟨b61, 0, none⟩) 4 4 := ⟨_, rfl⟩
          rw [show (textsE e).length = 4 from rfl, ← hv61] at h
          refine c_loopX h (X := Nat × Value) (fun x => [(0, v), (3, x.2), (5, .int .i64 (i : Int)), (6, .pointer (some ⟨b6, 0, none⟩)), (61, v61), (62, .int .i64 4), (63, .int .i64 (x.1 : Int))]) (fun x => OwnL sv v61 (textsE e) :: Blk b6 (.cells ⟨cellsE e⟩ t_api_Elem) :: OwnB x.2 (A2 ++ encTexts ((textsE e).take x.1)) :: F)
            (fun x => x.1 ≤ 4) (fun x => 4 - x.1) (0, pw) ⟨(h.keep [0, 3, 5, 6, 61, 62, 63]).1, by rw [List.take_zero, show encTexts [] = [] from rfl, List.append_nil]; exact h.2⟩ (Nat.zero_le _) ?_
          clear h a w; intro x a w hxj h
          obtain ⟨j, pw⟩ := x
          replace hxj : j ≤ 4 := hxj
          dsimp only at h
          have hA3 : (A2 ++ encTexts ((textsE e).take j)).length ≤ 7200 := by
            have := encTexts_len ((textsE e).take j) (fun n hn => (h2x n (List.mem_of_mem_take hn)))
            simp only [List.length_append, List.length_take] at this ⊢; omega
          rw [List.length_append] at hA3
          as_aux_lemma =>
            refine c_seq (c_region ?_)
            refine wv h (r_bin h rfl rfl (B.lss_int)) rfl ?_
            clear h a w; intro a w h
            refine wnil (c_then ?_)
            refine c_seq ?_
            first
              | refine c_condD h rfl (fun ht3 => ?_) (fun ht3 => ?_)
              | refine c_condP h rfl (by first | (simp only [Bool.and_eq_true, Bool.or_eq_true, Bool.not_eq_true', decide_eq_true_eq, decide_eq_false_iff_not, ne_eq, Bool.not_eq_eq_eq_not, Bool.not_true, beq_iff_eq, bne_iff_ne]; exact Iff.rfl) | exact Iff.rfl) (fun ht3 => ?_) (fun ht3 => ?_)
            ·
              have hsn := encTexts_snoc (l := textsE e) (j := j) (by omega)
              have hbn : ((textsE e).getD j []).length ≤ 12 := h2x _ (by rw [List.getD_eq_getElem?_getD, List.getElem?_eq_getElem (by omega)]; exact List.getElem_mem _)
              have hml := numN_len9 ((textsE e).getD j []).length (by omega)
              generalize hgx : (textsE e).getD j [] = tx at hsn hbn hml
              refine c_skip ?_
              refine c_then ?_
              refine c_seq ?_
              refine c_block ?_
              refine c_seq (c_region ?_)
              refine wv h (r_elP h rfl rfl K.u_S_string K.sz_string (by first | exact Views.own 0 rfl | exact Views.own 1 rfl | exact Views.own 2 rfl | exact Views.own 3 rfl | exact Views.own 4 rfl | exact Views.own 5 rfl | assumption | exact Views.of_drop 1 (by assumption) | exact Views.of_drop 2 (by assumption) | exact Views.of_drop 3 (by assumption) | exact Views.of_drop 4 (by assumption) | exact Views.of_drop 5 (by assumption) | exact Views.of_drop 6 (by assumption) | exact Views.of_drop 7 (by assumption) | exact Views.of_drop 8 (by assumption) | exact Views.of_drop 9 (by assumption) | exact Views.of_drop 10 (by assumption) | exact Views.of_drop 11 (by assumption) | exact Views.of_drop 12 (by assumption)) (by first | omega | (simp; done)) (by first | omega | (simp only [List.length_cons, List.length_nil]; omega) | (simp; done) | (simp; omega))) rfl ?_
              clear h a w; intro a w h
              refine wv h (r_els h rfl K.u_string rfl (by first | exact Views.own 0 rfl | exact Views.own 1 rfl | exact Views.own 2 rfl | exact Views.own 3 rfl | exact Views.own 4 rfl | exact Views.own 5 rfl | assumption | exact Views.of_drop 1 (by assumption) | exact Views.of_drop 2 (by assumption) | exact Views.of_drop 3 (by assumption) | exact Views.of_drop 4 (by assumption) | exact Views.of_drop 5 (by assumption) | exact Views.of_drop 6 (by assumption) | exact Views.of_drop 7 (by assumption) | exact Views.of_drop 8 (by assumption) | exact Views.of_drop 9 (by assumption) | exact Views.of_drop 10 (by assumption) | exact Views.of_drop 11 (by assumption) | exact Views.of_drop 12 (by assumption)) (by first | omega | (simp only [List.length_cons, List.length_nil]; omega) | (simp; done) | (simp; omega))) rfl ?_
              clear h a w; intro a w h
              rw [hgx] at h
              refine wv h (r_assign h rfl) rfl ?_
              clear h a w; intro a w h
              refine wnil (c_then ?_)
              refine c_region ?_
              refine wv h (r_move h rfl) rfl ?_
              clear h a w; intro a w h
              refine wv h (r_move h rfl) rfl ?_
              clear h a w; intro a w h
              refine wl rfl (op_call h rfl K.go_ref01_Text (ref_text s _ tx _ (by omega) h.2) rfl ?_)
              clear h a w; intro v69 a w hx2 h
              (try simp only [List.set_cons_zero, List.set_cons_succ] at h)
              first
                | (refine wl rfl (op_appendbs h rfl rfl K.u_S_uint8 K.sz_uint8 K.z_uint8 rfl rfl 0 rfl (Src.bytes K.u_S_uint8 (by first | exact ViewsB.own 0 rfl | exact ViewsB.own 1 rfl | exact ViewsB.own 2 rfl | exact ViewsB.own 3 rfl | exact ViewsB.own 4 rfl | exact ViewsB.own 5 rfl | assumption | exact ViewsB.nil _ | exact ViewsB.arr 0 rfl (by first | assumption | rfl | (simp; done)) (Nat.le_refl _) (by simp [maxLen]) | exact ViewsB.arr 1 rfl (by first | assumption | rfl | (simp; done)) (Nat.le_refl _) (by simp [maxLen]) | exact ViewsB.arr 2 rfl (by first | assumption | rfl | (simp; done)) (Nat.le_refl _) (by simp [maxLen]) | exact ViewsB.arr 3 rfl (by first | assumption | rfl | (simp; done)) (Nat.le_refl _) (by simp [maxLen]) | exact ViewsB.arr 4 rfl (by first | assumption | rfl | (simp; done)) (Nat.le_refl _) (by simp [maxLen]) | exact ViewsB.of_drop 1 (by assumption) | exact ViewsB.of_drop 2 (by assumption) | exact ViewsB.of_drop 3 (by assumption) | exact ViewsB.of_drop 4 (by assumption) | exact ViewsB.of_drop 5 (by assumption) | exact ViewsB.of_drop 6 (by assumption) | exact ViewsB.of_drop 7 (by assumption) | exact ViewsB.of_drop 8 (by assumption) | exact ViewsB.of_drop 9 (by assumption) | exact ViewsB.of_drop 10 (by assumption) | exact ViewsB.of_drop 11 (by assumption) | exact ViewsB.of_drop 12 (by assumption) | exact ViewsB.sub (by first | exact ViewsB.own 0 rfl | exact ViewsB.own 1 rfl | exact ViewsB.own 2 rfl | exact ViewsB.own 3 rfl | exact ViewsB.own 4 rfl | exact ViewsB.own 5 rfl | assumption | exact ViewsB.nil _ | exact ViewsB.arr 0 rfl (by first | assumption | rfl | (simp; done)) (Nat.le_refl _) (by simp [maxLen]) | exact ViewsB.arr 1 rfl (by first | assumption | rfl | (simp; done)) (Nat.le_refl _) (by simp [maxLen]) | exact ViewsB.arr 2 rfl (by first | assumption | rfl | (simp; done)) (Nat.le_refl _) (by simp [maxLen]) | exact ViewsB.arr 3 rfl (by first | assumption | rfl | (simp; done)) (Nat.le_refl _) (by simp [maxLen]) | exact ViewsB.arr 4 rfl (by first | assumption | rfl | (simp; done)) (Nat.le_refl _) (by simp [maxLen]) | exact ViewsB.of_drop 1 (by assumption) | exact ViewsB.of_drop 2 (by assumption) | exact ViewsB.of_drop 3 (by assumption) | exact ViewsB.of_drop 4 (by assumption) | exact ViewsB.of_drop 5 (by assumption) | exact ViewsB.of_drop 6 (by assumption) | exact ViewsB.of_drop 7 (by assumption) | exact ViewsB.of_drop 8 (by assumption) | exact ViewsB.of_drop 9 (by assumption) | exact ViewsB.of_drop 10 (by assumption) | exact ViewsB.of_drop 11 (by assumption) | exact ViewsB.of_drop 12 (by assumption)) (by omega) (by first | omega | (simp; done) | (simp; omega))) h.2) (by first | omega | (simp only [List.length_cons, List.length_nil]; omega) | (simp; done) | (simp; omega)) rfl ?_))
                | (refine wl rfl (op_appendbs h rfl rfl K.u_S_uint8 K.sz_uint8 K.z_uint8 rfl rfl 1 rfl (Src.bytes K.u_S_uint8 (by first | exact ViewsB.own 0 rfl | exact ViewsB.own 1 rfl | exact ViewsB.own 2 rfl | exact ViewsB.own 3 rfl | exact ViewsB.own 4 rfl | exact ViewsB.own 5 rfl | assumption | exact ViewsB.nil _ | exact ViewsB.arr 0 rfl (by first | assumption | rfl | (simp; done)) (Nat.le_refl _) (by simp [maxLen]) | exact ViewsB.arr 1 rfl (by first | assumption | rfl | (simp; done)) (Nat.le_refl _) (by simp [maxLen]) | exact ViewsB.arr 2 rfl (by first | assumption | rfl | (simp; done)) (Nat.le_refl _) (by simp [maxLen]) | exact ViewsB.arr 3 rfl (by first | assumption | rfl | (simp; done)) (Nat.le_refl _) (by simp [maxLen]) | exact ViewsB.arr 4 rfl (by first | assumption | rfl | (simp; done)) (Nat.le_refl _) (by simp [maxLen]) | exact ViewsB.of_drop 1 (by assumption) | exact ViewsB.of_drop 2 (by assumption) | exact ViewsB.of_drop 3 (by assumption) | exact ViewsB.of_drop 4 (by assumption) | exact ViewsB.of_drop 5 (by assumption) | exact ViewsB.of_drop 6 (by assumption) | exact ViewsB.of_drop 7 (by assumption) | exact ViewsB.of_drop 8 (by assumption) | exact ViewsB.of_drop 9 (by assumption) | exact ViewsB.of_drop 10 (by assumption) | exact ViewsB.of_drop 11 (by assumption) | exact ViewsB.of_drop 12 (by assumption) | exact ViewsB.sub (by first | exact ViewsB.own 0 rfl | exact ViewsB.own 1 rfl | exact ViewsB.own 2 rfl | exact ViewsB.own 3 rfl | exact ViewsB.own 4 rfl | exact ViewsB.own 5 rfl | assumption | exact ViewsB.nil _ | exact ViewsB.arr 0 rfl (by first | assumption | rfl | (simp; done)) (Nat.le_refl _) (by simp [maxLen]) | exact ViewsB.arr 1 rfl (by first | assumption | rfl | (simp; done)) (Nat.le_refl _) (by simp [maxLen]) | exact ViewsB.arr 2 rfl (by first | assumption | rfl | (simp; done)) (Nat.le_refl _) (by simp [maxLen]) | exact ViewsB.arr 3 rfl (by first | assumption | rfl | (simp; done)) (Nat.le_refl _) (by simp [maxLen]) | exact ViewsB.arr 4 rfl (by first | assumption | rfl | (simp; done)) (Nat.le_refl _) (by simp [maxLen]) | exact ViewsB.of_drop 1 (by assumption) | exact ViewsB.of_drop 2 (by assumption) | exact ViewsB.of_drop 3 (by assumption) | exact ViewsB.of_drop 4 (by assumption) | exact ViewsB.of_drop 5 (by assumption) | exact ViewsB.of_drop 6 (by assumption) | exact ViewsB.of_drop 7 (by assumption) | exact ViewsB.of_drop 8 (by assumption) | exact ViewsB.of_drop 9 (by assumption) | exact ViewsB.of_drop 10 (by assumption) | exact ViewsB.of_drop 11 (by assumption) | exact ViewsB.of_drop 12 (by assumption)) (by omega) (by first | omega | (simp; done) | (simp; omega))) h.2) (by first | omega | (simp only [List.length_cons, List.length_nil]; omega) | (simp; done) | (simp; omega)) rfl ?_))
                | (refine wl rfl (op_appendbs h rfl rfl K.u_S_uint8 K.sz_uint8 K.z_uint8 rfl rfl 2 rfl (Src.bytes K.u_S_uint8 (by first | exact ViewsB.own 0 rfl | exact ViewsB.own 1 rfl | exact ViewsB.own 2 rfl | exact ViewsB.own 3 rfl | exact ViewsB.own 4 rfl | exact ViewsB.own 5 rfl | assumption | exact ViewsB.nil _ | exact ViewsB.arr 0 rfl (by first | assumption | rfl | (simp; done)) (Nat.le_refl _) (by simp [maxLen]) | exact ViewsB.arr 1 rfl (by first | assumption | rfl | (simp; done)) (Nat.le_refl _) (by simp [maxLen]) | exact ViewsB.arr 2 rfl (by first | assumption | rfl | (simp; done)) (Nat.le_refl _) (by simp [maxLen]) | exact ViewsB.arr 3 rfl (by first | assumption | rfl | (simp; done)) (Nat.le_refl _) (by simp [maxLen]) | exact ViewsB.arr 4 rfl (by first | assumption | rfl | (simp; done)) (Nat.le_refl _) (by simp [maxLen]) | exact ViewsB.of_drop 1 (by assumption) | exact ViewsB.of_drop 2 (by assumption) | exact ViewsB.of_drop 3 (by assumption) | exact ViewsB.of_drop 4 (by assumption) | exact ViewsB.of_drop 5 (by assumption) | exact ViewsB.of_drop 6 (by assumption) | exact ViewsB.of_drop 7 (by assumption) | exact ViewsB.of_drop 8 (by assumption) | exact ViewsB.of_drop 9 (by assumption) | exact ViewsB.of_drop 10 (by assumption) | exact ViewsB.of_drop 11 (by assumption) | exact ViewsB.of_drop 12 (by assumption) | exact ViewsB.sub (by first | exact ViewsB.own 0 rfl | exact ViewsB.own 1 rfl | exact ViewsB.own 2 rfl | exact ViewsB.own 3 rfl | exact ViewsB.own 4 rfl | exact ViewsB.own 5 rfl | assumption | exact ViewsB.nil _ | exact ViewsB.arr 0 rfl (by first | assumption | rfl | (simp; done)) (Nat.le_refl _) (by simp [maxLen]) | exact ViewsB.arr 1 rfl (by first | assumption | rfl | (simp; done)) (Nat.le_refl _) (by simp [maxLen]) | exact ViewsB.arr 2 rfl (by first | assumption | rfl | (simp; done)) (Nat.le_refl _) (by simp [maxLen]) | exact ViewsB.arr 3 rfl (by first | assumption | rfl | (simp; done)) (Nat.le_refl _) (by simp [maxLen]) | exact ViewsB.arr 4 rfl (by first | assumption | rfl | (simp; done)) (Nat.le_refl _) (by simp [maxLen]) | exact ViewsB.of_drop 1 (by assumption) | exact ViewsB.of_drop 2 (by assumption) | exact ViewsB.of_drop 3 (by assumption) | exact ViewsB.of_drop 4 (by assumption) | exact ViewsB.of_drop 5 (by assumption) | exact ViewsB.of_drop 6 (by assumption) | exact ViewsB.of_drop 7 (by assumption) | exact ViewsB.of_drop 8 (by assumption) | exact ViewsB.of_drop 9 (by assumption) | exact ViewsB.of_drop 10 (by assumption) | exact ViewsB.of_drop 11 (by assumption) | exact ViewsB.of_drop 12 (by assumption)) (by omega) (by first | omega | (simp; done) | (simp; omega))) h.2) (by first | omega | (simp only [List.length_cons, List.length_nil]; omega) | (simp; done) | (simp; omega)) rfl ?_))
                | (refine wl rfl (op_appendbs h rfl rfl K.u_S_uint8 K.sz_uint8 K.z_uint8 rfl rfl 3 rfl (Src.bytes K.u_S_uint8 (by first | exact ViewsB.own 0 rfl | exact ViewsB.own 1 rfl | exact ViewsB.own 2 rfl | exact ViewsB.own 3 rfl | exact ViewsB.own 4 rfl | exact ViewsB.own 5 rfl | assumption | exact ViewsB.nil _ | exact ViewsB.arr 0 rfl (by first | assumption | rfl | (simp; done)) (Nat.le_refl _) (by simp [maxLen]) | exact ViewsB.arr 1 rfl (by first | assumption | rfl | (simp; done)) (Nat.le_refl _) (by simp [maxLen]) | exact ViewsB.arr 2 rfl (by first | assumption | rfl | (simp; done)) (Nat.le_refl _) (by simp [maxLen]) | exact ViewsB.arr 3 rfl (by first | assumption | rfl | (simp; done)) (Nat.le_refl _) (by simp [maxLen]) | exact ViewsB.arr 4 rfl (by first | assumption | rfl | (simp; done)) (Nat.le_refl _) (by simp [maxLen]) | exact ViewsB.of_drop 1 (by assumption) | exact ViewsB.of_drop 2 (by assumption) | exact ViewsB.of_drop 3 (by assumption) | exact ViewsB.of_drop 4 (by assumption) | exact ViewsB.of_drop 5 (by assumption) | exact ViewsB.of_drop 6 (by assumption) | exact ViewsB.of_drop 7 (by assumption) | exact ViewsB.of_drop 8 (by assumption) | exact ViewsB.of_drop 9 (by assumption) | exact ViewsB.of_drop 10 (by assumption) | exact ViewsB.of_drop 11 (by assumption) | exact ViewsB.of_drop 12 (by assumption) | exact ViewsB.sub (by first | exact ViewsB.own 0 rfl | exact ViewsB.own 1 rfl | exact ViewsB.own 2 rfl | exact ViewsB.own 3 rfl | exact ViewsB.own 4 rfl | exact ViewsB.own 5 rfl | assumption | exact ViewsB.nil _ | exact ViewsB.arr 0 rfl (by first | assumption | rfl | (simp; done)) (Nat.le_refl _) (by simp [maxLen]) | exact ViewsB.arr 1 rfl (by first | assumption | rfl | (simp; done)) (Nat.le_refl _) (by simp [maxLen]) | exact ViewsB.arr 2 rfl (by first | assumption | rfl | (simp; done)) (Nat.le_refl _) (by simp [maxLen]) | exact ViewsB.arr 3 rfl (by first | assumption | rfl | (simp; done)) (Nat.le_refl _) (by simp [maxLen]) | exact ViewsB.arr 4 rfl (by first | assumption | rfl | (simp; done)) (Nat.le_refl _) (by simp [maxLen]) | exact ViewsB.of_drop 1 (by assumption) | exact ViewsB.of_drop 2 (by assumption) | exact ViewsB.of_drop 3 (by assumption) | exact ViewsB.of_drop 4 (by assumption) | exact ViewsB.of_drop 5 (by assumption) | exact ViewsB.of_drop 6 (by assumption) | exact ViewsB.of_drop 7 (by assumption) | exact ViewsB.of_drop 8 (by assumption) | exact ViewsB.of_drop 9 (by assumption) | exact ViewsB.of_drop 10 (by assumption) | exact ViewsB.of_drop 11 (by assumption) | exact ViewsB.of_drop 12 (by assumption)) (by omega) (by first | omega | (simp; done) | (simp; omega))) h.2) (by first | omega | (simp only [List.length_cons, List.length_nil]; omega) | (simp; done) | (simp; omega)) rfl ?_))
                | (refine wl rfl (op_appendbs h rfl rfl K.u_S_uint8 K.sz_uint8 K.z_uint8 rfl rfl 4 rfl (Src.bytes K.u_S_uint8 (by first | exact ViewsB.own 0 rfl | exact ViewsB.own 1 rfl | exact ViewsB.own 2 rfl | exact ViewsB.own 3 rfl | exact ViewsB.own 4 rfl | exact ViewsB.own 5 rfl | assumption | exact ViewsB.nil _ | exact ViewsB.arr 0 rfl (by first | assumption | rfl | (simp; done)) (Nat.le_refl _) (by simp [maxLen]) | exact ViewsB.arr 1 rfl (by first | assumption | rfl | (simp; done)) (Nat.le_refl _) (by simp [maxLen]) | exact ViewsB.arr 2 rfl (by first | assumption | rfl | (simp; done)) (Nat.le_refl _) (by simp [maxLen]) | exact ViewsB.arr 3 rfl (by first | assumption | rfl | (simp; done)) (Nat.le_refl _) (by simp [maxLen]) | exact ViewsB.arr 4 rfl (by first | assumption | rfl | (simp; done)) (Nat.le_refl _) (by simp [maxLen]) | exact ViewsB.of_drop 1 (by assumption) | exact ViewsB.of_drop 2 (by assumption) | exact ViewsB.of_drop 3 (by assumption) | exact ViewsB.of_drop 4 (by assumption) | exact ViewsB.of_drop 5 (by assumption) | exact ViewsB.of_drop 6 (by assumption) | exact ViewsB.of_drop 7 (by assumption) | exact ViewsB.of_drop 8 (by assumption) | exact ViewsB.of_drop 9 (by assumption) | exact ViewsB.of_drop 10 (by assumption) | exact ViewsB.of_drop 11 (by assumption) | exact ViewsB.of_drop 12 (by assumption) | exact ViewsB.sub (by first | exact ViewsB.own 0 rfl | exact ViewsB.own 1 rfl | exact ViewsB.own 2 rfl | exact ViewsB.own 3 rfl | exact ViewsB.own 4 rfl | exact ViewsB.own 5 rfl | assumption | exact ViewsB.nil _ | exact ViewsB.arr 0 rfl (by first | assumption | rfl | (simp; done)) (Nat.le_refl _) (by simp [maxLen]) | exact ViewsB.arr 1 rfl (by first | assumption | rfl | (simp; done)) (Nat.le_refl _) (by simp [maxLen]) | exact ViewsB.arr 2 rfl (by first | assumption | rfl | (simp; done)) (Nat.le_refl _) (by simp [maxLen]) | exact ViewsB.arr 3 rfl (by first | assumption | rfl | (simp; done)) (Nat.le_refl _) (by simp [maxLen]) | exact ViewsB.arr 4 rfl (by first | assumption | rfl | (simp; done)) (Nat.le_refl _) (by simp [maxLen]) | exact ViewsB.of_drop 1 (by assumption) | exact ViewsB.of_drop 2 (by assumption) | exact ViewsB.of_drop 3 (by assumption) | exact ViewsB.of_drop 4 (by assumption) | exact ViewsB.of_drop 5 (by assumption) | exact ViewsB.of_drop 6 (by assumption) | exact ViewsB.of_drop 7 (by assumption) | exact ViewsB.of_drop 8 (by assumption) | exact ViewsB.of_drop 9 (by assumption) | exact ViewsB.of_drop 10 (by assumption) | exact ViewsB.of_drop 11 (by assumption) | exact ViewsB.of_drop 12 (by assumption)) (by omega) (by first | omega | (simp; done) | (simp; omega))) h.2) (by first | omega | (simp only [List.length_cons, List.length_nil]; omega) | (simp; done) | (simp; omega)) rfl ?_))
                | (refine wl rfl (op_appendbs h rfl rfl K.u_S_uint8 K.sz_uint8 K.z_uint8 rfl rfl 5 rfl (Src.bytes K.u_S_uint8 (by first | exact ViewsB.own 0 rfl | exact ViewsB.own 1 rfl | exact ViewsB.own 2 rfl | exact ViewsB.own 3 rfl | exact ViewsB.own 4 rfl | exact ViewsB.own 5 rfl | assumption | exact ViewsB.nil _ | exact ViewsB.arr 0 rfl (by first | assumption | rfl | (simp; done)) (Nat.le_refl _) (by simp [maxLen]) | exact ViewsB.arr 1 rfl (by first | assumption | rfl | (simp; done)) (Nat.le_refl _) (by simp [maxLen]) | exact ViewsB.arr 2 rfl (by first | assumption | rfl | (simp; done)) (Nat.le_refl _) (by simp [maxLen]) | exact ViewsB.arr 3 rfl (by first | assumption | rfl | (simp; done)) (Nat.le_refl _) (by simp [maxLen]) | exact ViewsB.arr 4 rfl (by first | assumption | rfl | (simp; done)) (Nat.le_refl _) (by simp [maxLen]) | exact ViewsB.of_drop 1 (by assumption) | exact ViewsB.of_drop 2 (by assumption) | exact ViewsB.of_drop 3 (by assumption) | exact ViewsB.of_drop 4 (by assumption) | exact ViewsB.of_drop 5 (by assumption) | exact ViewsB.of_drop 6 (by assumption) | exact ViewsB.of_drop 7 (by assumption) | exact ViewsB.of_drop 8 (by assumption) | exact ViewsB.of_drop 9 (by assumption) | exact ViewsB.of_drop 10 (by assumption) | exact ViewsB.of_drop 11 (by assumption) | exact ViewsB.of_drop 12 (by assumption) | exact ViewsB.sub (by first | exact ViewsB.own 0 rfl | exact ViewsB.own 1 rfl | exact ViewsB.own 2 rfl | exact ViewsB.own 3 rfl | exact ViewsB.own 4 rfl | exact ViewsB.own 5 rfl | assumption | exact ViewsB.nil _ | exact ViewsB.arr 0 rfl (by first | assumption | rfl | (simp; done)) (Nat.le_refl _) (by simp [maxLen]) | exact ViewsB.arr 1 rfl (by first | assumption | rfl | (simp; done)) (Nat.le_refl _) (by simp [maxLen]) | exact ViewsB.arr 2 rfl (by first | assumption | rfl | (simp; done)) (Nat.le_refl _) (by simp [maxLen]) | exact ViewsB.arr 3 rfl (by first | assumption | rfl | (simp; done)) (Nat.le_refl _) (by simp [maxLen]) | exact ViewsB.arr 4 rfl (by first | assumption | rfl | (simp; done)) (Nat.le_refl _) (by simp [maxLen]) | exact ViewsB.of_drop 1 (by assumption) | exact ViewsB.of_drop 2 (by assumption) | exact ViewsB.of_drop 3 (by assumption) | exact ViewsB.of_drop 4 (by assumption) | exact ViewsB.of_drop 5 (by assumption) | exact ViewsB.of_drop 6 (by assumption) | exact ViewsB.of_drop 7 (by assumption) | exact ViewsB.of_drop 8 (by assumption) | exact ViewsB.of_drop 9 (by assumption) | exact ViewsB.of_drop 10 (by assumption) | exact ViewsB.of_drop 11 (by assumption) | exact ViewsB.of_drop 12 (by assumption)) (by omega) (by first | omega | (simp; done) | (simp; omega))) h.2) (by first | omega | (simp only [List.length_cons, List.length_nil]; omega) | (simp; done) | (simp; omega)) rfl ?_))
              clear h a w; intro v70 a w h
              (try simp only [List.set_cons_zero, List.set_cons_succ] at h)
              refine wv h (r_assign h rfl) rfl ?_
              clear h a w; intro a w h
              refine wnil ?_
              refine b_normal ?_
              refine c_then ?_
              refine c_region ?_
              refine wv h (r_bin h rfl rfl (B.add_i64 (by omega) (by omega))) rfl ?_
              clear h a w; intro a w h
              refine wv h (r_move h rfl) rfl ?_
              clear h a w; intro a w h
              refine wnil ?_
              refine ⟨(j + 1, v70), ⟨(h.keep [0, 3, 5, 6, 61, 62, 63]).1, ?_⟩, by show j + 1 ≤ 4; omega, by show 4 - (j + 1) < 4 - j; omega⟩
              have h2 := h.2.drop 1
              show Sat s w (OwnL sv v61 (textsE e) :: Blk b6 (.cells ⟨cellsE e⟩ t_api_Elem) :: OwnB v70 (A2 ++ encTexts ((textsE e).take (j + 1))) :: F)
              rw [hsn, ← List.append_assoc]
              exact h2
            ·
              obtain rfl : j = 4 := by omega
              rw [List.take_of_length_le (by omega), ← hAe] at h
              refine c_exit ?_
              refine e_then ?_
              refine e_then ?_
              refine e_here ?_
              refine c_then ?_
              refine c_region ?_
              refine wv h (r_fieldAddr0 h rfl K.u_api_Elem rfl K.sz_int rfl rfl) rfl ?_
              clear h a w; intro a w h
              first
                | (refine wv h (r_ldN h rfl K.u_int rfl 0 rfl rfl) rfl ?_)
                | (refine wv h (r_ldN h rfl K.u_int rfl 1 rfl rfl) rfl ?_)
                | (refine wv h (r_ldN h rfl K.u_int rfl 2 rfl rfl) rfl ?_)
                | (refine wv h (r_ldN h rfl K.u_int rfl 3 rfl rfl) rfl ?_)
                | (refine wv h (r_ldN h rfl K.u_int rfl 4 rfl rfl) rfl ?_)
                | (refine wv h (r_ldN h rfl K.u_int rfl 5 rfl rfl) rfl ?_)
                | (refine wv h (r_ldN h rfl K.u_int rfl 6 rfl rfl) rfl ?_)
                | (refine wv h (r_ldC (o := 0) h rfl K.u_int rfl 0 rfl) rfl ?_)
                | (refine wv h (r_ldC (o := 0) h rfl K.u_int rfl 1 rfl) rfl ?_)
                | (refine wv h (r_ldC (o := 0) h rfl K.u_int rfl 2 rfl) rfl ?_)
                | (refine wv h (r_ldC (o := 0) h rfl K.u_int rfl 3 rfl) rfl ?_)
                | (refine wv h (r_ldC (o := 0) h rfl K.u_int rfl 4 rfl) rfl ?_)
                | (refine wv h (r_ldC (o := 0) h rfl K.u_int rfl 5 rfl) rfl ?_)
                | (refine wv h (r_ldC (o := 0) h rfl K.u_int rfl 6 rfl) rfl ?_)
                | (refine wv h (r_load h rfl K.u_int rfl 0 rfl rfl) rfl ?_)
                | (refine wv h (r_load h rfl K.u_int rfl 1 rfl rfl) rfl ?_)
                | (refine wv h (r_load h rfl K.u_int rfl 2 rfl rfl) rfl ?_)
                | (refine wv h (r_load h rfl K.u_int rfl 3 rfl rfl) rfl ?_)
                | (refine wv h (r_load h rfl K.u_int rfl 4 rfl rfl) rfl ?_)
                | (refine wv h (r_load h rfl K.u_int rfl 5 rfl rfl) rfl ?_)
                | (refine wv h (r_load1 h rfl K.u_int rfl (by assumption)) rfl ?_)
              clear h a w; intro a w h
              refine wv h (r_assign h rfl) rfl ?_
              clear h a w; intro a w h
              refine wnil ?_
              refine b_normal ?_
              refine c_then ?_
              refine c_region ?_
              refine wv h (r_move h rfl) rfl ?_
              clear h a w; intro a w h
              refine wv h (r_bin h rfl rfl (B.add_i64 (by omega) (by omega))) rfl ?_
              clear h a w; intro a w h
              refine wv h (r_assign h rfl) rfl ?_
              clear h a w; intro a w h
              refine wnil ?_
              exact ⟨(i + 1, pw), ⟨by rw [hid]; exact (h.keep [0, 3, 4, 5]).1, h.2.drop 2⟩, by show i + 1 ≤ l.length; omega, by show l.length - (i + 1) < l.length - i; omega⟩
    ·
      obtain rfl : i = l.length := by omega
      rw [List.take_length] at h
      refine c_exit ?_
      refine e_then ?_
      refine e_then ?_
      refine e_here ?_
      refine c_then ?_
      refine c_seq (c_region ?_)
      refine wv h (r_move h rfl) rfl ?_
      clear h a w; intro a w h
      refine wv h (r_assign h rfl) rfl ?_
      clear h a w; intro a w h
      refine wnil (c_then ?_)
      refine c_ret ?_
      exact ret1 h rfl rfl ⟨pv, rfl, h.2, trivial⟩
end Go.Proofs.K
