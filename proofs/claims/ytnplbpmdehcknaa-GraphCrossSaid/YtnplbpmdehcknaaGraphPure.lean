/- A walk over commits as a plain thing: what waits, what was seen. -/
import Derived.Test.YtnplbpmdehcknaaSl
set_option linter.unusedVariables false
namespace Go.Sl

abbrev Key := BA 32
/-- a commit's parents, by its key -/
def look (ns : List (Key × List Key)) (k : Key) : Option (List Key) := (ns.find? fun p => decide (p.1 = k)).map (·.2)

/-- from what was seen, and what waits, to the answer: all that was seen, no error; or none, and the error; in so many turns at most -/
inductive Bfs (ns : List (Key × List Key)) : Nat → List Key → List Key → (List Key × Int) → Prop
  | nil {m l} : Bfs ns m l [] (l, 0)
  | skip {m l k q r} : k ∈ l → Bfs ns m l q r → Bfs ns (m + 1) l (k :: q) r
  | lost {m l k q} : k ∉ l → look ns k = none → Bfs ns (m + 1) l (k :: q) ([], 2)
  | step {m l k q ps r} : k ∉ l → look ns k = some ps → Bfs ns m (l ++ [k]) (q ++ ps) r → Bfs ns (m + 1) l (k :: q) r

/-- a state from which the answer r comes, within bounds -/
def BfsOk (ns : List (Key × List Key)) (m : Nat) (l q : List Key) (r : List Key × Int) : Prop :=
  Bfs ns m l q r ∧ l.length + m ≤ 9000 ∧ q.length + 100 * m ≤ 1000000

theorem BfsOk.skip {ns m l k q r} (h : BfsOk ns m l (k :: q) r) (hk : k ∈ l) : ∃ m', m = m' + 1 ∧ BfsOk ns m' l q r := by
  obtain ⟨h1, h2, h3⟩ := h
  simp only [List.length_cons] at h3
  cases h1 with
  | skip _ h => exact ⟨_, rfl, h, by omega, by omega⟩
  | lost hn _ => exact absurd hk hn
  | step hn _ _ => exact absurd hk hn
theorem BfsOk.lost {ns m l k q r} (h : BfsOk ns m l (k :: q) r) (hk : k ∉ l) (hn : look ns k = none) : r = ([], 2) := by
  cases h.1 with
  | skip h _ => exact absurd h hk
  | lost _ _ => rfl
  | step _ h _ => rw [hn] at h; cases h
theorem BfsOk.step {ns m l k q r ps} (h : BfsOk ns m l (k :: q) r) (hk : k ∉ l) (hn : look ns k = some ps) (hp : ps.length ≤ 99) : ∃ m', m = m' + 1 ∧ BfsOk ns m' (l ++ [k]) (q ++ ps) r := by
  obtain ⟨h1, h2, h3⟩ := h
  simp only [List.length_cons] at h3
  cases h1 with
  | skip h _ => exact absurd h hk
  | lost _ h => rw [hn] at h; cases h
  | step _ h hh =>
    rw [hn] at h; cases h
    exact ⟨_, rfl, hh, by simp; omega, by simp; omega⟩
theorem BfsOk.done {ns m l r} (h : BfsOk ns m l [] r) : r = (l, 0) := by
  cases h.1; rfl
theorem Bfs.lostE {ns m l q r} (h : Bfs ns m l q r) (h0 : r.2 ≠ 0) : r.1 = [] := by
  induction h with
  | nil => exact absurd rfl h0
  | skip _ _ ih => exact ih h0
  | lost _ _ => rfl
  | step _ _ _ ih => exact ih h0
theorem BfsOk.lostE {ns m l q r} (h : BfsOk ns m l q r) (h0 : ¬ r.2 = 0) : r.1 = [] := h.1.lostE h0
theorem BfsOk.lt {ns m l k q r} (h : BfsOk ns m l (k :: q) r) : l.length < 9000 := by
  obtain ⟨h1, h2, h3⟩ := h
  cases h1 <;> omega
end Go.Sl
namespace Go.Sl

def rAll (ns : List (Key × List Key)) : Nat → List Key → List Key → List Key
  | 0, l, _ => l
  | _ + 1, l, [] => l
  | n + 1, l, k :: q => if k ∈ l then rAll ns n l q else rAll ns n (l ++ [k]) (q ++ (look ns k).getD [])
theorem rAll_nil (ns : List (Key × List Key)) (n : Nat) (l : List Key) : rAll ns n l [] = l := by cases n <;> rfl
/-- where the one comes to an answer, so does the other -/
theorem Bfs.rAll {ns m l q r} (h : Bfs ns m l q r) : r.2 = 0 → ∀ n, m ≤ n → rAll ns n l q = r.1 := by
  induction h with
  | nil => intro _ n _; exact rAll_nil _ _ _
  | @skip m l k q r hk _ ih =>
    intro h0 n hn
    obtain ⟨n', rfl⟩ : ∃ n', n = n' + 1 := ⟨n - 1, by omega⟩
    rw [Sl.rAll, if_pos hk]; exact ih h0 n' (by omega)
  | lost _ _ => intro h0; cases h0
  | @step m l k q ps r hk hl _ ih =>
    intro h0 n hn
    obtain ⟨n', rfl⟩ : ∃ n', n = n' + 1 := ⟨n - 1, by omega⟩
    rw [Sl.rAll, if_neg hk, hl]; exact ih h0 n' (by omega)
end Go.Sl
namespace Go.Sl

theorem Bfs.len {ns m l q r} (h : Bfs ns m l q r) : r.1.length ≤ l.length + m := by
  induction h with
  | nil => simp
  | skip _ _ ih => omega
  | lost _ _ => simp
  | step _ _ _ ih => simp at ih; omega
theorem BfsOk.len {ns m l q r} (h : BfsOk ns m l q r) : r.1.length ≤ 9000 := by have := h.1.len; have := h.2.1; omega

/-- is k ahead of none of some others? and the error -/
def topF (all : Key → List Key × Int) (k : Key) : List Key → Bool × Int
  | [] => (true, 0)
  | x :: l => if x = k then topF all k l else if (all x).2 ≠ 0 ∨ k ∈ (all x).1 then (false, (all x).2) else topF all k l
def bestF (all : Key → List Key × Int) (both : List Key) : List Key → Key → Bool → Key × Bool × Int
  | [], best, ok => (best, ok, 0)
  | k :: l, best, ok => if (topF all k both).2 ≠ 0 then (BA.zero 32, false, (topF all k both).2) else
      if (topF all k both).1 && (!ok || Op.bytesLess k.val best.val) then bestF all both l k true else bestF all both l best ok
def baseF (all : Key → List Key × Int) (a b : Key) : Key × Bool × Int :=
  if (all a).2 ≠ 0 then (BA.zero 32, false, (all a).2) else if (all b).2 ≠ 0 then (BA.zero 32, false, (all b).2) else
    bestF all ((all a).1.filter fun k => !!decide (k ∈ (all b).1)) ((all a).1.filter fun k => !!decide (k ∈ (all b).1)) (BA.zero 32) false
theorem topF_step (all : Key → List Key × Int) (k : Key) (l : List Key) {i : Nat} {x : Key} (hx : l[i]? = some x) :
    topF all k (l.drop i) = if x = k then topF all k (l.drop (i + 1)) else if (all x).2 ≠ 0 ∨ k ∈ (all x).1 then (false, (all x).2) else topF all k (l.drop (i + 1)) := by
  obtain ⟨hlt, rfl⟩ := List.getElem?_eq_some_iff.1 hx
  rw [List.drop_eq_getElem_cons hlt, topF]
theorem bestF_step (all : Key → List Key × Int) (both l : List Key) (best : Key) (ok : Bool) {i : Nat} {k : Key} (hx : l[i]? = some k) :
    bestF all both (l.drop i) best ok = if (topF all k both).2 ≠ 0 then (BA.zero 32, false, (topF all k both).2) else
      if (topF all k both).1 && (!ok || Op.bytesLess k.val best.val) then bestF all both (l.drop (i + 1)) k true else bestF all both (l.drop (i + 1)) best ok := by
  obtain ⟨hlt, rfl⟩ := List.getElem?_eq_some_iff.1 hx
  rw [List.drop_eq_getElem_cons hlt, bestF]
end Go.Sl
namespace Go.Sl

/-- is y in what none of the others tells? -/
def topG (rA : Key → List Key) (y : Key) (i : Nat) : List Key → Nat → Bool → Bool
  | [], _, t => t
  | z :: l, k, t => topG rA y i l (k + 1) (if k ≠ i ∧ y ∈ rA z then false else t)
def bestG (rA : Key → List Key) (both : List Key) : List Key → Nat → Key → Bool → Key × Bool
  | [], _, best, ok => (best, ok)
  | y :: l, i, best, ok => if topG rA y i both 0 true && (!ok || Op.bytesLess y.val best.val) then bestG rA both l (i + 1) y true else bestG rA both l (i + 1) best ok
def baseG (rA : Key → List Key) (x y : Key) : Key × Bool :=
  bestG rA ((rA x).filter fun k => decide (k ∈ rA y)) ((rA x).filter fun k => decide (k ∈ rA y)) 0 (BA.zero 32) false
theorem topG_step (rA : Key → List Key) (y : Key) (i : Nat) (l : List Key) (t : Bool) {k : Nat} {z : Key} (hz : l[k]? = some z) :
    topG rA y i (l.drop k) k t = topG rA y i (l.drop (k + 1)) (k + 1) (if k ≠ i ∧ y ∈ rA z then false else t) := by
  obtain ⟨hlt, rfl⟩ := List.getElem?_eq_some_iff.1 hz
  rw [List.drop_eq_getElem_cons hlt, topG]
theorem bestG_step (rA : Key → List Key) (both l : List Key) (best : Key) (ok : Bool) {i : Nat} {y : Key} (hy : l[i]? = some y) :
    bestG rA both (l.drop i) i best ok = if topG rA y i both 0 true && (!ok || Op.bytesLess y.val best.val) then bestG rA both (l.drop (i + 1)) (i + 1) y true else bestG rA both (l.drop (i + 1)) (i + 1) best ok := by
  obtain ⟨hlt, rfl⟩ := List.getElem?_eq_some_iff.1 hy
  rw [List.drop_eq_getElem_cons hlt, bestG]
end Go.Sl
namespace Go.Sl

def keyIx : List Key → Key → Nat → Int
  | [], _, _ => -1
  | x :: l, k, i => if k = x then i else keyIx l k (i + 1)
theorem keyIx_step (l : List Key) (k : Key) {i : Nat} {x : Key} (hx : l[i]? = some x) : keyIx (l.drop i) k i = if k = x then (i : Int) else keyIx (l.drop (i + 1)) k (i + 1) := by
  obtain ⟨hlt, rfl⟩ := List.getElem?_eq_some_iff.1 hx
  rw [List.drop_eq_getElem_cons hlt, keyIx]
theorem keyIx_mem : ∀ (l : List Key) (k : Key) (i : Nat), decide (keyIx l k i ≥ 0) = decide (k ∈ l)
  | [], k, i => by simp [keyIx]
  | x :: l, k, i => by
    rw [keyIx]
    by_cases e : k = x
    · rw [if_pos e]; simp [e]
    · rw [if_neg e, keyIx_mem l k (i + 1)]; simp [e]
/-- the place of the first one of which p holds -/
def fnIx (p : Key → Bool) : List Key → Nat → Int
  | [], _ => -1
  | x :: l, i => if p x = true then i else fnIx p l (i + 1)
theorem fnIx_step (p : Key → Bool) (l : List Key) {i : Nat} {x : Key} (hx : l[i]? = some x) : fnIx p (l.drop i) i = if p x = true then (i : Int) else fnIx p (l.drop (i + 1)) (i + 1) := by
  obtain ⟨hlt, rfl⟩ := List.getElem?_eq_some_iff.1 hx
  rw [List.drop_eq_getElem_cons hlt, fnIx]
theorem fnIx_none : ∀ (p : Key → Bool) (l : List Key) (i : Nat), fnIx p l i = -1 → l.filter (fun x => !p x) = l
  | p, [], i, _ => rfl
  | p, x :: l, i, h => by
    rw [fnIx] at h
    by_cases e : p x = true
    · rw [if_pos e] at h; omega
    · rw [if_neg e] at h
      rw [List.filter_cons_of_pos (by simpa using e), fnIx_none p l (i + 1) h]
theorem fnIx_some : ∀ (p : Key → Bool) (l : List Key) (i : Nat), fnIx p l i ≠ -1 → ∃ j, fnIx p l i = ((i + j : Nat) : Int) ∧ j < l.length ∧ (l.take (j + 1)).filter (fun x => !p x) = l.take j
  | p, [], i, h => absurd rfl h
  | p, x :: l, i, h => by
    rw [fnIx] at h ⊢
    by_cases e : p x = true
    · rw [if_pos e]
      exact ⟨0, rfl, by simp, by simp [e]⟩
    · rw [if_neg e] at h ⊢
      obtain ⟨j, h1, h2, h3⟩ := fnIx_some p l (i + 1) h
      refine ⟨j + 1, by rw [h1]; congr 1; omega, by simp; omega, ?_⟩
      rw [List.take_succ_cons, List.filter_cons_of_pos (by simpa using e), h3, List.take_succ_cons]
end Go.Sl
namespace Go.Sl

/-- a node: its key; its commit's chart, parents (a slice, and what is in it), note -/
structure NodeV where
  key : Key
  chart : Key
  sa : Option Addr
  sl : Nat
  sc : Nat
  note : List UInt8
  pars : List Key
def NodeV.pv (x : NodeV) : Value := .slice x.sa x.sl x.sc
/-- a commit's cells -/
def comC (ch : Key) (pv nv : Value) : List Value := bs ch.val ++ [pv, nv]
@[simp] theorem comC_len (ch : Key) (pv nv : Value) : (comC ch pv nv).length = 34 := by simp [comC, bs_length, ch.len]
theorem comC_one {ch : Key} {pv nv : Value} (h1 : pv.oneCell' = true) (h2 : nv.oneCell' = true) : ∀ u ∈ comC ch pv nv, u.oneCell' = true := by
  intro u hu
  simp only [comC, List.mem_append, List.mem_cons, List.not_mem_nil, or_false] at hu
  rcases hu with hu | rfl | rfl
  · exact bs_one _ u hu
  · exact h1
  · exact h2
instance (ch : Key) (pv nv : Value) : CellAt (comC ch pv nv) 32 pv := ⟨by rw [comC, List.getElem?_append_right (by rw [bs_length, ch.len]; exact Nat.le_refl _), bs_length, ch.len]; rfl⟩
instance (ch : Key) (pv nv v : Value) : SetAt (comC ch pv nv) 32 v (comC ch v nv) := ⟨by rw [comC_len]; omega, by rw [comC, List.set_append_right _ _ (by rw [bs_length, ch.len]; exact Nat.le_refl _), bs_length, ch.len]; rfl⟩
def NodeV.com (x : NodeV) : List Value := comC x.chart x.pv (sv x.note)
def cellsN (x : NodeV) : List Value := bs x.key.val ++ (x.com ++ [.slice none 0 0])
instance : Row cellsN 67 := ⟨fun x => by simp [cellsN, NodeV.com, bs_length, x.key.len], fun x u hu => by
  simp only [cellsN, NodeV.com, comC, List.mem_append, List.mem_cons, List.not_mem_nil, or_false] at hu
  rcases hu with hu | (hu | rfl | rfl) | rfl
  · exact bs_one _ u hu
  · exact bs_one _ u hu
  · rfl
  · rfl
  · rfl⟩
theorem cellsN_key (x : NodeV) : ((cellsN x).drop 0).take 32 = bs x.key.val := by
  rw [List.drop_zero, cellsN, List.take_left' (by rw [bs_length, x.key.len])]
theorem cellsN_com (x : NodeV) : ((cellsN x).drop 32).take 34 = x.com := by
  rw [cellsN, List.drop_left' (by rw [bs_length, x.key.len]), List.take_left' (by rw [NodeV.com, comC_len])]
theorem cellsN_pars (x : NodeV) : ((cellsN x).drop 64).take 1 = [x.pv] := by
  have h2 : (cellsN x)[64]? = some x.pv := by
    rw [cellsN, List.getElem?_append_right (by rw [bs_length, x.key.len]; omega), bs_length, x.key.len, NodeV.com, comC, List.append_assoc, List.getElem?_append_right (by rw [bs_length, x.chart.len]; omega), bs_length, x.chart.len]; rfl
  obtain ⟨hlt, h3⟩ := List.getElem?_eq_some_iff.1 h2
  rw [List.drop_eq_getElem_cons hlt, h3]; rfl
theorem cellsN_pv (x : NodeV) : (cellsN x)[64]? = some x.pv := by
  rw [cellsN, List.getElem?_append_right (by rw [bs_length, x.key.len]; omega), bs_length, x.key.len, NodeV.com, comC, List.append_assoc, List.getElem?_append_right (by rw [bs_length, x.chart.len]; omega), bs_length, x.chart.len]; rfl
instance : Inhabited NodeV := ⟨⟨default, default, none, 0, 0, [], []⟩⟩
def nsOf (xs : List NodeV) : List (Key × List Key) := xs.map fun x => (x.key, x.pars)
def findN (xs : List NodeV) (k : Key) : Option NodeV := xs.find? fun x => decide (x.key = k)
theorem look_find (xs : List NodeV) (k : Key) : look (nsOf xs) k = (findN xs k).map (·.pars) := by
  induction xs with
  | nil => rfl
  | cons x xs ih =>
    by_cases e : x.key = k
    · simp [look, nsOf, findN, e]
    · have : look (nsOf (x :: xs)) k = look (nsOf xs) k := by simp [look, nsOf, e]
      rw [this, ih]; simp [findN, e]
/-- the place of a key among the nodes; or -1 -/
def nodeIx : List NodeV → Key → Nat → Int
  | [], _, _ => -1
  | x :: xs, k, i => if x.key = k then i else nodeIx xs k (i + 1)
theorem nodeIx_none : ∀ (xs : List NodeV) (k : Key) (i : Nat), findN xs k = none → nodeIx xs k i = -1
  | [], _, _, _ => rfl
  | x :: xs, k, i, h => by
    have hn : x.key ≠ k := by intro e; simp [findN, e] at h
    rw [nodeIx, if_neg hn]
    exact nodeIx_none xs k _ (by simpa [findN, hn] using h)
theorem nodeIx_some : ∀ (xs : List NodeV) (k : Key) (i : Nat) (x : NodeV), findN xs k = some x → ∃ j, nodeIx xs k i = ((i + j : Nat) : Int) ∧ xs[j]? = some x
  | [], _, _, _, h => by simp [findN] at h
  | y :: xs, k, i, x, h => by
    by_cases e : y.key = k
    · refine ⟨0, by rw [nodeIx, if_pos e]; rfl, ?_⟩
      simpa [findN, e] using h
    · obtain ⟨j, h1, h2⟩ := nodeIx_some xs k (i + 1) x (by simpa [findN, e] using h)
      exact ⟨j + 1, by rw [nodeIx, if_neg e, h1]; congr 1; omega, by simpa using h2⟩
theorem findN_mem {xs : List NodeV} {k : Key} {x : NodeV} (h : findN xs k = some x) : x ∈ xs ∧ x.key = k := by
  refine ⟨List.mem_of_find?_eq_some h, ?_⟩
  have := List.find?_some h
  simpa using this
/-- what a book answers to a key: a commit, an error -/
def comV (xs : List NodeV) (k : Key) : Value := match findN xs k with
  | some x => .tuple ⟨[.agg ⟨x.com⟩, .int .i64 0]⟩
  | none => .tuple ⟨[.agg ⟨comC (BA.zero 32) (.slice none 0 0) (sv [])⟩, .int .i64 2]⟩

theorem comV_shape (xs : List NodeV) (k : Key) : ∃ (C : List Value) (e : Int), comV xs k = .tuple ⟨[.agg ⟨C⟩, .int .i64 e]⟩ ∧ C.length = 34 ∧ (∀ u ∈ C, u.oneCell' = true) ∧ ((e = 0 ∧ ∃ y, findN xs k = some y ∧ C = comC y.chart y.pv (sv y.note)) ∨ (e = 2 ∧ findN xs k = none)) := by
  unfold comV
  cases hf : findN xs k with
  | none => exact ⟨_, _, rfl, comC_len _ _ _, comC_one rfl rfl, .inr ⟨rfl, rfl⟩⟩
  | some y => exact ⟨_, _, rfl, comC_len _ _ _, comC_one rfl rfl, .inl ⟨rfl, y, rfl, rfl⟩⟩
/-- in whatever world that bears the items L, there is a book at b: its nodes' slice, the nodes, their parents -/
def BookV (L : List HItem) (b : Nat) (nv : Value) (xs : List NodeV) : Prop :=
  CellsAt L ⟨b, 0, none⟩ [nv] ∧ Views L 67 nv xs.length (xs.flatMap cellsN) ∧ ∀ x ∈ xs, Views L 32 x.pv x.pars.length (x.pars.flatMap cellsA)
theorem BookV.cons {L : List HItem} {b : Nat} {nv : Value} {xs : List NodeV} (h : BookV L b nv xs) (I : HItem) : BookV (I :: L) b nv xs :=
  ⟨h.1.cons I, h.2.1.cons I, fun x hx => (h.2.2 x hx).cons I⟩
theorem BookV.of_drop {L : List HItem} {b : Nat} {nv : Value} {xs : List NodeV} (k : Nat) (h : BookV (L.drop k) b nv xs) : BookV L b nv xs :=
  ⟨h.1.of_drop k, h.2.1.of_drop k, fun x hx => (h.2.2 x hx).of_drop k⟩
theorem nodeIx_step (xs : List NodeV) (k : Key) {i : Nat} {x : NodeV} (hx : xs[i]? = some x) : nodeIx (xs.drop i) k i = if x.key = k then (i : Int) else nodeIx (xs.drop (i + 1)) k (i + 1) := by
  obtain ⟨hlt, rfl⟩ := List.getElem?_eq_some_iff.1 hx
  rw [List.drop_eq_getElem_cons hlt, nodeIx]
end Go.Sl
namespace Go.Sl

def keyT (x : UInt8) (i : Nat) : Key := ⟨[x * 7, UInt8.ofInt ((i : Int) + 1)] ++ List.replicate 30 0, by simp⟩
def parT (ks : List Key) (x : UInt8) (n : Nat) : List Key :=
  if 0 < n ∧ 0 < x % 4 then ks.getD ((x / 4).toNat % n) default :: (if 1 < x % 4 ∧ (x / 16).toNat % n ≠ (x / 4).toNat % n then [ks.getD ((x / 16).toNat % n) default] else []) else []
def treeS (l : List UInt8) : Nat → List Key × List (Key × List Key)
  | 0 => ([], [])
  | i + 1 => ((treeS l i).1 ++ [keyT (l.getD i 0) i], (treeS l i).2 ++ [(keyT (l.getD i 0) i, parT (treeS l i).1 (l.getD i 0) i)])
theorem treeS_len (l : List UInt8) : ∀ i, (treeS l i).1.length = i ∧ (treeS l i).2.length = i
  | 0 => ⟨rfl, rfl⟩
  | i + 1 => by have ⟨h1, h2⟩ := treeS_len l i; simp [treeS, h1, h2]
theorem parT_len (ks : List Key) (x : UInt8) (n : Nat) : (parT ks x n).length ≤ 2 := by
  unfold parT; split
  · split <;> simp
  · simp

theorem get_getD (l : List Key) (j : Nat) (h : j < l.length) : l[j]? = some (l.getD j default) := by
  rw [List.getD_eq_getElem?_getD, List.getElem?_eq_getElem h]; rfl

theorem fill_note (nt : List UInt8) : Instr.fill (fun i => ([(0, 32), (32, 1), (33, 1)] : List (Nat × Nat))[i]?) ⟨comC (BA.zero 32) (.slice none 0 0) (sv [])⟩ [(2, sv nt)] = some ⟨comC (BA.zero 32) (.slice none 0 0) (sv nt)⟩ := by
  rw [fill_step (off := 33) (size := 1) (us := [sv nt]) rfl rfl rfl (by rw [comC_len]; omega), Instr.fill]
  congr 2
theorem fill_node (k : Key) (c : List Value) (hc : c.length = 34) (zs : List Value) (hz : zs.length = 67) (hl : zs.drop 66 = [.slice none 0 0]) :
    Instr.fill (fun i => ([(0, 32), (32, 34), (66, 1)] : List (Nat × Nat))[i]?) ⟨zs⟩ [(0, .agg ⟨bs k.val⟩), (1, .agg ⟨c⟩)] = some ⟨bs k.val ++ (c ++ [.slice none 0 0])⟩ := by
  have hk : (bs k.val).length = 32 := by rw [bs_length, k.len]
  rw [fill_step (off := 0) (size := 32) (us := bs k.val) rfl rfl hk (by omega)]
  rw [fill_step (off := 32) (size := 34) (us := c) rfl rfl hc (by simp [hk]; omega), Instr.fill]
  congr 2
  simp only [List.take_zero, List.nil_append, Nat.zero_add]
  rw [List.take_left' hk, show 32 + 34 = 32 + 34 from rfl, List.append_assoc]
  congr 2
  rw [List.drop_append, hk, List.drop_eq_nil_of_le (by rw [hk]; omega), List.nil_append, List.drop_drop]
  exact hl
theorem fill_key (a b : UInt8) : Instr.fill (fun i => some (i * 1, 1)) ⟨bs (List.replicate 32 0)⟩ [(0, bv a), (1, bv b)] = some ⟨bs ([a, b] ++ List.replicate 30 0)⟩ := by
  rw [fill_step (off := 0) (size := 1) (us := [bv a]) rfl rfl rfl (by simp [bs])]
  rw [fill_step (off := 1) (size := 1) (us := [bv b]) rfl rfl rfl (by simp [bs]), Instr.fill]
  rfl

/-- the parents of some nodes, each where it lies -/
def ParsI (xs : List NodeV) : HItem := ⟨fun h => ∀ x ∈ xs, RDh 32 x.pv x.pars.length (x.pars.flatMap cellsA) h, fun _ _ hl hh x hx => (hh x hx).mono hl⟩
theorem Sat.parsNil {s w : World} {L : List HItem} (h : Sat s w L) : Sat s w (ParsI [] :: L) :=
  ⟨h.1, h.2.1, h.2.2.1, fun _ => false, (fun x hx => absurd hx (by simp)), sepL_mono L (fun b o hb => by simpa [restr] using hb) h.2.2.2⟩
theorem Sat.parsMore {s w : World} {L : List HItem} {xs : List NodeV} {x : NodeV} (h : Sat s w (ParsI xs :: OwnM 32 cellsA x.pv x.pars :: L)) : Sat s w (ParsI (xs ++ [x]) :: L) := by
  have h2 : Sat s w (Sep [ParsI xs, OwnM 32 cellsA x.pv x.pars] :: L) := Sat.sep (M := [ParsI xs, OwnM 32 cellsA x.pv x.pars]) h
  refine h2.map 0 (J := ParsI (xs ++ [x])) rfl (fun hh hp => ?_)
  obtain ⟨D, h3, D2, h4, _⟩ := hp
  intro y hy
  rcases List.mem_append.1 hy with hy | hy
  · exact (h3 y hy).mono restr_le
  · simp at hy; subst hy
    exact ((Own.reads h4).mono restr_le).mono restr_le
/-- a book, its block, its nodes, their parents -/
theorem BookV.mk {L : List HItem} {b : Nat} {nv : Value} {xs : List NodeV} {us : List Value} {T : TypeId} {fr : Nat × Nat} (i j k : Nat) (hi : L[i]? = some (Blk b (.cells ⟨nv :: us⟩ T fr))) (hj : L[j]? = some (OwnM 67 cellsN nv xs)) (hk : L[k]? = some (ParsI xs)) : BookV L b nv xs :=
  ⟨CellsAt.of_mem i hi (fun q u hq => by
    cases q with
    | zero => simpa using hq
    | succ q => simp at hq), Views.own j hj, fun x hx => Views.of_mem k hk (fun h hp => hp x hx)⟩
end Go.Sl
