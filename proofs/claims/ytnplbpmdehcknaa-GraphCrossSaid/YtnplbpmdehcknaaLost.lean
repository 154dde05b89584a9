/- A book from which one commit is lost; a row of commits; two that took one another in: plain laws. -/
import Derived.Test.YtnplbpmdehcknaaGraphLaw
set_option linter.unusedVariables false
namespace Go.Sl

/-- where one commit is lost, a walk that comes to it fails; another one goes as it went -/
theorem Bfs.lose {ns ns' : Nodes} {lost : Key} (hl0 : look ns' lost = none) (hl1 : ∀ k, k ≠ lost → look ns' k = look ns k) {m l q r} (h : Bfs ns m l q r) :
    r.2 = 0 → lost ∉ l → Bfs ns' m l q (if lost ∈ r.1 then ([], 2) else r) := by
  induction h with
  | nil => intro _ hn; rw [if_neg hn]; exact .nil
  | skip hk _ ih => intro h0 hn; exact .skip hk (ih h0 hn)
  | lost _ _ => intro h0; cases h0
  | @step m l k q ps r hk hl hb ih =>
    intro h0 hn
    by_cases e : k = lost
    · subst e
      have : k ∈ r.1 := (hb.grows h0).1 k (by simp)
      rw [if_pos this]
      exact .lost hk hl0
    · refine .step hk (by rw [hl1 k e, hl]) (ih h0 ?_)
      intro q
      rcases List.mem_append.1 q with q | q
      · exact hn q
      · simp at q; exact e q.symm

/-- the book without its commit number k -/
theorem look_erase {ns : Nodes} (hu : (ns.map (·.1)).Nodup) {k : Nat} {p : Key × List Key} (hk : ns[k]? = some p) :
    look (ns.take k ++ ns.drop (k + 1)) p.1 = none ∧ ∀ x, x ≠ p.1 → look (ns.take k ++ ns.drop (k + 1)) x = look ns x := by
  obtain ⟨hlt, hp⟩ := List.getElem?_eq_some_iff.1 hk
  have hsplit : ns = ns.take k ++ p :: ns.drop (k + 1) := by
    conv => lhs; rw [← List.take_append_drop k ns]
    rw [List.drop_eq_getElem_cons hlt, hp]
  refine ⟨?_, fun x hx => ?_⟩
  · cases hl : look (ns.take k ++ ns.drop (k + 1)) p.1 with
    | none => rfl
    | some ps =>
      have hm := look_some hl
      rw [hsplit, List.map_append, List.map_cons, List.nodup_append, List.nodup_cons] at hu
      rcases List.mem_append.1 hm with hm | hm
      · exact absurd rfl (hu.2.2 p.1 (List.mem_map.2 ⟨_, hm, rfl⟩) p.1 (by simp))
      · exact absurd (List.mem_map.2 ⟨_, hm, rfl⟩) hu.2.1.1
  · conv => rhs; rw [hsplit]
    unfold look
    rw [List.find?_append, List.find?_append]
    have : (p :: ns.drop (k + 1)).find? (fun q => decide (q.1 = x)) = (ns.drop (k + 1)).find? (fun q => decide (q.1 = x)) := by
      rw [List.find?_cons_of_neg (by simpa using fun e => hx e.symm)]
    rw [this]
structure Some2 (ns : Nodes) : Prop where
  two : ∀ p ∈ ns, p.2.length ≤ 2
  few : ns.length ≤ 250
theorem Some2.all {ns : Nodes} (h : Some2 ns) (fr : List Key) (hf : fr.length ≤ 100) : Bfs ns 900 [] fr (allB ns fr) := allB_spec (all_ex ns h.two h.few fr hf)
theorem facts2 {xs : List NodeV} (hg : Some2 (nsOf xs)) : (∀ k, ∃ m, BfsOk (nsOf xs) m [] [k] (al (nsOf xs) k)) ∧ (∀ x ∈ xs, x.pars.length ≤ 99) ∧ xs.length ≤ 250 := by
  refine ⟨fun k => ⟨900, allB_ok (all_ex _ hg.two hg.few [k] (by simp)) (by simp)⟩, fun x hx => ?_, ?_⟩
  · have := hg.two (x.key, x.pars) (List.mem_map.2 ⟨x, hx, rfl⟩)
    simp only at this; omega
  · have := hg.few; simpa [nsOf] using this
/-- what a book tells of one that is not in it -/
theorem Some2.gone {ns : Nodes} (h : Some2 ns) {k : Key} (hk : look ns k = none) : al ns k = ([], 2) :=
  Bfs.det (m' := 900) (r' := al ns k) (m := 1) (l := []) (q := [k]) (r := ([], 2)) (.lost (by simp) hk) (h.all [k] (by simp))
theorem Some2.nothing {ns : Nodes} (h : Some2 ns) : allB ns [] = ([], 0) := Bfs.det (m' := 900) (r' := allB ns []) (m := 0) (l := []) (q := []) (r := ([], 0)) .nil (h.all [] (by simp))
/-- the base of one and itself: an error just if its walk has one -/
theorem Some2.self {ns : Nodes} (h : Some2 ns) (x : Key) : (baseF (al ns) x x).2.2 = (al ns x).2 := by
  by_cases h0 : (al ns x).2 = 0
  · have hcl := (h.all [x] (by simp)).closed h0 (fun z hz => absurd hz (by simp))
    obtain ⟨r, hr, _⟩ := baseF_best (all := al ns) h0 h0 (fun z hz _ => ((h.all [z] (by simp)).within (fun k => k ∈ (al ns x).1) hcl (by simpa using hz) (fun k hk => absurd hk (by simp))).1)
    rw [hr, h0]
  · rw [baseF, if_pos h0]
theorem lose_all {ns : Nodes} (hg : Good ns) {k : Nat} {p : Key × List Key} (hk : ns[k]? = some p) {x : Key} (hx : x ∈ ns.map (·.1)) :
    Some2 (ns.take k ++ ns.drop (k + 1)) ∧ al (ns.take k ++ ns.drop (k + 1)) x = (if p.1 ∈ (al ns x).1 then ([], 2) else al ns x) := by
  obtain ⟨h1, h2⟩ := look_erase hg.apart hk
  have hs : Some2 (ns.take k ++ ns.drop (k + 1)) := ⟨fun p hp => hg.two p (by
      rcases List.mem_append.1 hp with h | h
      · exact List.mem_of_mem_take h
      · exact List.mem_of_mem_drop h), by have := hg.few; simp; omega⟩
  have h0 := (hg.ok [x] (by simp) (by simpa using hx)).1
  exact ⟨hs, Bfs.det (m' := 900) ((hg.all [x] (by simp)).lose h1 h2 h0 (by simp)) (hs.all [x] (by simp))⟩
theorem nsOf_erase (xs : List NodeV) (k : Nat) : nsOf (xs.take k ++ xs.drop (k + 1)) = (nsOf xs).take k ++ (nsOf xs).drop (k + 1) := by
  simp [nsOf, List.map_take, List.map_drop]
/-- a book of some of the nodes whose parents lie there -/
theorem BookV.mk2 {L : List HItem} {b : Nat} {nv : Value} {xs ys : List NodeV} {us : List Value} {T : TypeId} {fr : Nat × Nat} (i j k : Nat) (hi : L[i]? = some (Blk b (.cells ⟨nv :: us⟩ T fr))) (hj : L[j]? = some (OwnM 67 cellsN nv ys)) (hk : L[k]? = some (ParsI xs)) (hy : ∀ y ∈ ys, y ∈ xs) : BookV L b nv ys :=
  ⟨CellsAt.of_mem i hi (fun q u hq => by
    cases q with
    | zero => simpa using hq
    | succ q => simp at hq), Views.own j hj, fun x hx => Views.of_mem k hk (fun h hp => hp x (hy x hx))⟩
end Go.Sl
