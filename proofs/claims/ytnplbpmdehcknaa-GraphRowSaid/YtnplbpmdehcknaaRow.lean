/- A row of commits, each behind the one ahead of it; plain laws. -/
import Derived.Test.YtnplbpmdehcknaaLost
set_option linter.unusedVariables false
namespace Go.Sl

def rk (n : Nat) : Key := ⟨[UInt8.ofInt (n : Int), UInt8.ofInt ((n : Int) / 256), 1] ++ List.replicate 29 0, by simp⟩
def parR (j : Nat) : List Key := if 0 < j then [rk j] else []
def rowS : Nat → Nodes
  | 0 => []
  | i + 1 => rowS i ++ [(rk (i + 1), parR i)]
def down : Nat → List Key
  | 0 => [rk 1]
  | q + 1 => rk (q + 2) :: down q
theorem rk_inj {i j : Nat} (hi : i < 256) (hj : j < 256) (h : rk i = rk j) : i = j := by
  have := congrArg BA.val h
  simp only [rk, List.cons_append, List.cons.injEq] at this
  have h2 := this.1
  have e : ∀ n : Nat, n < 256 → (UInt8.ofInt (n : Int)).toNat = n := by
    intro n hn
    have := B.wrap_u8 (n : Int)
    simp only [IntKind.wrap, IntKind.signed, IntKind.bits, Bool.false_and, Bool.false_eq_true, if_false] at this
    omega
  have := congrArg UInt8.toNat h2
  rw [e i hi, e j hj] at this
  omega
theorem rowS_len : ∀ n, (rowS n).length = n
  | 0 => rfl
  | n + 1 => by simp [rowS, rowS_len n]
theorem rowS_get : ∀ n j, j < n → (rowS n)[j]? = some (rk (j + 1), parR j)
  | 0, j, h => by omega
  | n + 1, j, h => by
    rw [rowS]
    by_cases e : j = n
    · subst e
      rw [List.getElem?_append_right (by rw [rowS_len]; omega), rowS_len, Nat.sub_self]; rfl
    · rw [List.getElem?_append_left (by rw [rowS_len]; omega)]
      exact rowS_get n j (by omega)
theorem rowS_mem : ∀ n p, p ∈ rowS n → ∃ j, j < n ∧ p = (rk (j + 1), parR j)
  | 0, p, h => by simp [rowS] at h
  | n + 1, p, h => by
    rw [rowS] at h
    rcases List.mem_append.1 h with h | h
    · obtain ⟨j, h1, h2⟩ := rowS_mem n p h; exact ⟨j, by omega, h2⟩
    · simp only [List.mem_singleton] at h; exact ⟨n, by omega, h⟩
theorem rowS_nodup : ∀ n, n ≤ 250 → ((rowS n).map (·.1)).Nodup
  | 0, _ => List.nodup_nil
  | n + 1, h => by
    rw [rowS, List.map_append, List.nodup_append]
    refine ⟨rowS_nodup n (by omega), by simp, fun a ha b hb => ?_⟩
    simp only [List.map_cons, List.map_nil, List.mem_singleton] at hb
    obtain ⟨p, hp, rfl⟩ := List.mem_map.1 ha
    obtain ⟨j, h1, rfl⟩ := rowS_mem n p hp
    intro e
    rw [hb] at e
    have := rk_inj (by omega) (by omega) e
    omega
theorem parR_len (j : Nat) : (parR j).length ≤ 2 := by unfold parR; split <;> simp
theorem row_good (n : Nat) (hn : n ≤ 250) : Good (rowS n) where
  two := fun p hp => by obtain ⟨j, _, rfl⟩ := rowS_mem n p hp; exact parR_len j
  few := by rw [rowS_len]; exact hn
  closed := fun p hp k hk => by
    obtain ⟨j, hj, rfl⟩ := rowS_mem n p hp
    simp only [parR] at hk
    split at hk
    · simp only [List.mem_singleton] at hk
      subst hk
      have := rowS_get n (j - 1) (by omega)
      rw [show j - 1 + 1 = j by omega] at this
      exact List.mem_map.2 ⟨_, List.mem_of_getElem? this, rfl⟩
    · simp at hk
  apart := rowS_nodup n hn
theorem row_look {n j : Nat} (hn : n ≤ 250) (hj : j < n) : look (rowS n) (rk (j + 1)) = some (parR j) :=
  look_of (rowS_nodup n hn) (List.mem_of_getElem? (rowS_get n j hj))
theorem row_walk {n : Nat} (hn : n ≤ 250) : ∀ q, q < n → ∀ l, (∀ j, j ≤ q → rk (j + 1) ∉ l) → Bfs (rowS n) (q + 1) l [rk (q + 1)] (l ++ down q, 0)
  | 0, hq, l, hl => .step (ps := []) (hl 0 (by omega)) (by rw [row_look hn hq]; rfl) .nil
  | q + 1, hq, l, hl => by
    refine .step (ps := [rk (q + 1)]) (hl (q + 1) (by omega)) (by rw [row_look hn hq]; rfl) ?_
    have := row_walk hn q (by omega) (l ++ [rk (q + 1 + 1)]) (fun j hj h => by
      rcases List.mem_append.1 h with h | h
      · exact hl j (by omega) h
      · simp only [List.mem_singleton] at h
        have := rk_inj (by omega) (by omega) h
        omega)
    rw [List.append_assoc] at this
    exact this
theorem row_al {n q : Nat} (hn : n ≤ 250) (hq : q < n) : al (rowS n) (rk (q + 1)) = (down q, 0) :=
  Bfs.det (m' := 900) (r' := al (rowS n) (rk (q + 1))) (by have := row_walk hn q hq [] (fun _ _ h => absurd h (by simp)); exact this) ((row_good n hn).all [rk (q + 1)] (by simp))
theorem down_len : ∀ q, (down q).length = q + 1
  | 0 => rfl
  | q + 1 => by rw [down, List.length_cons, down_len q]
theorem down_first : ∀ q, (down q)[0]? = some (rk (q + 1))
  | 0 => rfl
  | q + 1 => rfl
theorem down_last : ∀ q, (down q)[q]? = some (rk 1)
  | 0 => rfl
  | q + 1 => by rw [down, List.getElem?_cons_succ]; exact down_last q
theorem down_mem : ∀ q p, q < 250 → p < 250 → (rk (p + 1) ∈ down q ↔ p ≤ q)
  | 0, p, hq, hp => by
    rw [down, List.mem_singleton]
    refine ⟨fun h => ?_, fun h => ?_⟩
    · have := rk_inj (by omega) (by omega) h; omega
    · rw [show p = 0 by omega]
  | q + 1, p, hq, hp => by
    rw [down, List.mem_cons, down_mem q p (by omega) hp]
    refine ⟨fun h => ?_, fun h => ?_⟩
    · rcases h with h | h
      · have := rk_inj (by omega) (by omega) h; omega
      · omega
    · by_cases e : p = q + 1
      · subst e; exact .inl rfl
      · exact .inr (by omega)
theorem fill_key3 (a b c : UInt8) : Instr.fill (fun i => some (i * 1, 1)) ⟨bs (List.replicate 32 0)⟩ [(0, bv a), (1, bv b), (2, bv c)] = some ⟨bs ([a, b, c] ++ List.replicate 29 0)⟩ := by
  rw [fill_step (off := 0) (size := 1) (us := [bv a]) rfl rfl rfl (by simp [bs])]
  rw [fill_step (off := 1) (size := 1) (us := [bv b]) rfl rfl rfl (by simp [bs])]
  rw [fill_step (off := 2) (size := 1) (us := [bv c]) rfl rfl rfl (by simp [bs]), Instr.fill]
  rfl
theorem fill_rk (n : Nat) : Instr.fill (fun i => some (i * 1, 1)) ⟨bs (List.replicate 32 0)⟩ [(0, bv (UInt8.ofInt (n : Int))), (1, bv (UInt8.ofInt ((n : Int) / 256))), (2, .int .u8 1)] = some ⟨cellsA (rk n)⟩ := fill_key3 _ _ 1
theorem fill_rk1 (n : Nat) : Instr.fill (fun i => some (i * 1, 1)) ⟨bs (List.replicate 32 0)⟩ [(0, bv (UInt8.ofInt ((n : Int) + 1))), (1, bv (UInt8.ofInt (((n : Int) + 1) / 256))), (2, .int .u8 1)] = some ⟨cellsA (rk (n + 1))⟩ := fill_rk (n + 1)
theorem ns_get {xs : List NodeV} {n j : Nat} (h : nsOf xs = rowS n) (hj : j < n) : ∃ x, xs[j]? = some x ∧ x.key = rk (j + 1) := by
  have := rowS_get n j hj
  rw [← h, nsOf, List.getElem?_map] at this
  cases hx : xs[j]? with
  | none => rw [hx] at this; cases this
  | some x =>
    rw [hx] at this
    simp only [Option.map_some, Option.some.injEq, Prod.mk.injEq] at this
    exact ⟨x, rfl, this.1⟩
end Go.Sl
