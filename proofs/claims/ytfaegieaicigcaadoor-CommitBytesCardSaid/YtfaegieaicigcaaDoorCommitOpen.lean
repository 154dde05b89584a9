/- A commit that comes in. -/
import Derived.Test.YtfaegieaicigcaaDoorTab
import Derived.Test.YtfaegieaicigcaaDoorCommitPure
set_option linter.unusedVariables false
namespace Go.Proofs.K
open Go.Sl

theorem open_api_Commit {H : Type} {enc : TypeId × Value → H} {W : World} {base b0 : Nat} {r : Reach} {v : Value} {d : DataW H} {ps : List MemPlace} (hval : Value.okWide P W r b0 t_api_Commit v) (hd : DataW.Trod enc P W base (fun _ => true) true t_api_Commit v d ps) :
    ∃ (c : Cm) (pv : Value), v = .agg ⟨cmC c.chart pv (sv c.note)⟩ ∧ Views [Base W] 32 pv c.parents.length (c.parents.flatMap cellsA) ∧ c.note.length ≤ maxLen := by
  obtain ⟨⟨ch, ⟨pv, ks⟩, nt⟩, rfl, _, hv, hn⟩ := opn_agg u_api_Commit hval (opn_struct3 (n0 := 32) (n1 := 1) (n2 := 1) u_api_Commit (by kernel_rfl) ⟨rfl, by kernel_rfl⟩ ⟨rfl, by kernel_rfl⟩ ⟨rfl, by kernel_rfl⟩
    (opn_arr8 (N := 32) u_api_Key u_uint8 (by kernel_rfl) (by kernel_rfl)) (opn_slice (size := 32) u_S_api_Key (by kernel_rfl) (by decide) (fun a => Row.len a) (opn_arr8 (N := 32) u_api_Key u_uint8 (by kernel_rfl) (by kernel_rfl))) (opn_str u_string)) hd
  refine ⟨⟨ch, ks, nt⟩, pv, ?_, hv.1, hn⟩
  show Value.agg ⟨cellsA ch ++ [pv] ++ [sv nt]⟩ = .agg ⟨cmC ch pv (sv nt)⟩
  rw [cmC, List.append_assoc]; rfl
end Go.Proofs.K
