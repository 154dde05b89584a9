/-
  No cell of these rows narrows 'for every input' (looked for: loops, veiled, ifaces, maps, wideKeys, modest, calm, conditions, laid).
  DERIVED. THE GIVEN ROWS OF THIS SEAT. 6 by the template 'for every input the law returns true; each argument reads behind the call as it read before'; 0 by the template 'total and deterministic' (their statements: YthaibfmnpcpkfaaTotals.lean).
  GIVEN WITH THE SEED: the statements are not yours to turn. If you find one false, say at which input.
  Laid BY PROGRAM, IN A SANDBOX (cutbox-rows.mjs): the forced cells as the released guide's own fill.sh prints them over the translation d69b4160dd39f95f… (all of the seat's roots in one cut). By AI agents, Wed Nov 11 2026. No macro, syntax, notation, axiom, sorry.
-/
import Derived.Test.YthaibfmnpcpkfaaChecked
import GoSem.Claim
import GoSem.ClaimJoined
import GoSem.ClaimMapViews
import Derived.JoinedTies
import Derived.KernelRfl
namespace Go.Proofs.Ythaibfmnpcpkfaa
/- THE CELL 'sum', in the pinned program and in every row, IS THE sha256 OF THE DUMP (.gsa) THAT YthaibfmnpcpkfaaProg.lean LOADS. Nothing in Lean hashes anything: it is a label: what it is worth is what the hold of that sum in a sandbox is worth. -/
noncomputable def Try.pinned : Pinned := { name := "ythaibfmnpcpkfaa", sum := "d69b4160dd39f95f5940ad6ee6ed1db5c93873a7f61bc8e2057288dc3811e788", checked := Try.checked }
namespace Rows
def none {H : Type} : Left H := { results := [], args := [] }

/-- 'interleaflaw01.DigitSizes': WHATEVER THE INPUT: true; the input reads as it did. -/
def digitSizesSpec : ChangeSpec := { name := "digitSizes", fn := fun _ => fun
  | [d] => { results := [.lit (.bool true)], args := [d] }
  | _ => none }
def digitSizesRow : OpenClaim := { program := "ythaibfmnpcpkfaa", sum := "d69b4160dd39f95f5940ad6ee6ed1db5c93873a7f61bc8e2057288dc3811e788", func := "interleaf/interleaflaw01.DigitSizes", spec := "digitSizes", apart := false }
def DigitSizesSaid : Prop := digitSizesRow.holds Try.pinned (OpenSpec.ofChange digitSizesSpec)

/-- ITS FALSE NEIGHBOUR: 'it returns false'. Refute it at one input. -/
def digitSizesWrong : ChangeSpec := { name := "digitSizes", fn := fun _ => fun
  | [d] => { results := [.lit (.bool false)], args := [d] }
  | _ => none }
def DigitSizesWrongFalsely : Prop := digitSizesRow.holds Try.pinned (OpenSpec.ofChange digitSizesWrong)

/-- 'interleaflaw01.DigitRaws': WHATEVER THE INPUT: true; the input reads as it did. -/
def digitRawsSpec : ChangeSpec := { name := "digitRaws", fn := fun _ => fun
  | [d1, d2] => { results := [.lit (.bool true)], args := [d1, d2] }
  | _ => none }
def digitRawsRow : OpenClaim := { program := "ythaibfmnpcpkfaa", sum := "d69b4160dd39f95f5940ad6ee6ed1db5c93873a7f61bc8e2057288dc3811e788", func := "interleaf/interleaflaw01.DigitRaws", spec := "digitRaws", apart := false }
def DigitRawsSaid : Prop := digitRawsRow.holds Try.pinned (OpenSpec.ofChange digitRawsSpec)

/-- ITS FALSE NEIGHBOUR: 'it returns false'. Refute it at one input. -/
def digitRawsWrong : ChangeSpec := { name := "digitRaws", fn := fun _ => fun
  | [d1, d2] => { results := [.lit (.bool false)], args := [d1, d2] }
  | _ => none }
def DigitRawsWrongFalsely : Prop := digitRawsRow.holds Try.pinned (OpenSpec.ofChange digitRawsWrong)

/-- 'interleaflaw01.DigitNums': WHATEVER THE INPUT: true; the input reads as it did. -/
def digitNumsSpec : ChangeSpec := { name := "digitNums", fn := fun _ => fun
  | [d1, d2] => { results := [.lit (.bool true)], args := [d1, d2] }
  | _ => none }
def digitNumsRow : OpenClaim := { program := "ythaibfmnpcpkfaa", sum := "d69b4160dd39f95f5940ad6ee6ed1db5c93873a7f61bc8e2057288dc3811e788", func := "interleaf/interleaflaw01.DigitNums", spec := "digitNums", apart := false }
def DigitNumsSaid : Prop := digitNumsRow.holds Try.pinned (OpenSpec.ofChange digitNumsSpec)

/-- ITS FALSE NEIGHBOUR: 'it returns false'. Refute it at one input. -/
def digitNumsWrong : ChangeSpec := { name := "digitNums", fn := fun _ => fun
  | [d1, d2] => { results := [.lit (.bool false)], args := [d1, d2] }
  | _ => none }
def DigitNumsWrongFalsely : Prop := digitNumsRow.holds Try.pinned (OpenSpec.ofChange digitNumsWrong)

/-- 'interleaflaw01.DigitCuts': WHATEVER THE INPUT: true; the input reads as it did. -/
def digitCutsSpec : ChangeSpec := { name := "digitCuts", fn := fun _ => fun
  | [d1, d2, d3] => { results := [.lit (.bool true)], args := [d1, d2, d3] }
  | _ => none }
def digitCutsRow : OpenClaim := { program := "ythaibfmnpcpkfaa", sum := "d69b4160dd39f95f5940ad6ee6ed1db5c93873a7f61bc8e2057288dc3811e788", func := "interleaf/interleaflaw01.DigitCuts", spec := "digitCuts", apart := false }
def DigitCutsSaid : Prop := digitCutsRow.holds Try.pinned (OpenSpec.ofChange digitCutsSpec)

/-- ITS FALSE NEIGHBOUR: 'it returns false'. Refute it at one input. -/
def digitCutsWrong : ChangeSpec := { name := "digitCuts", fn := fun _ => fun
  | [d1, d2, d3] => { results := [.lit (.bool false)], args := [d1, d2, d3] }
  | _ => none }
def DigitCutsWrongFalsely : Prop := digitCutsRow.holds Try.pinned (OpenSpec.ofChange digitCutsWrong)

/-- 'interleaflaw01.DigitTexts': WHATEVER THE INPUT: true; the input reads as it did. -/
def digitTextsSpec : ChangeSpec := { name := "digitTexts", fn := fun _ => fun
  | [d1, d2, d3] => { results := [.lit (.bool true)], args := [d1, d2, d3] }
  | _ => none }
def digitTextsRow : OpenClaim := { program := "ythaibfmnpcpkfaa", sum := "d69b4160dd39f95f5940ad6ee6ed1db5c93873a7f61bc8e2057288dc3811e788", func := "interleaf/interleaflaw01.DigitTexts", spec := "digitTexts", apart := false }
def DigitTextsSaid : Prop := digitTextsRow.holds Try.pinned (OpenSpec.ofChange digitTextsSpec)

/-- ITS FALSE NEIGHBOUR: 'it returns false'. Refute it at one input. -/
def digitTextsWrong : ChangeSpec := { name := "digitTexts", fn := fun _ => fun
  | [d1, d2, d3] => { results := [.lit (.bool false)], args := [d1, d2, d3] }
  | _ => none }
def DigitTextsWrongFalsely : Prop := digitTextsRow.holds Try.pinned (OpenSpec.ofChange digitTextsWrong)

/-- 'interleaflaw10.WireOne': WHATEVER THE INPUT: true; the input reads as it did. -/
def wireOneSpec : ChangeSpec := { name := "wireOne", fn := fun _ => fun
  | [d1, d2] => { results := [.lit (.bool true)], args := [d1, d2] }
  | _ => none }
def wireOneRow : OpenClaim := { program := "ythaibfmnpcpkfaa", sum := "d69b4160dd39f95f5940ad6ee6ed1db5c93873a7f61bc8e2057288dc3811e788", func := "interleaf/interleaflaw10.WireOne", spec := "wireOne", apart := false }
def WireOneSaid : Prop := wireOneRow.holds Try.pinned (OpenSpec.ofChange wireOneSpec)

/-- ITS FALSE NEIGHBOUR: 'it returns false'. Refute it at one input. -/
def wireOneWrong : ChangeSpec := { name := "wireOne", fn := fun _ => fun
  | [d1, d2] => { results := [.lit (.bool false)], args := [d1, d2] }
  | _ => none }
def WireOneWrongFalsely : Prop := wireOneRow.holds Try.pinned (OpenSpec.ofChange wireOneWrong)

/- THE SECOND FORM. 'bulk': how many values and letters a reading holds, each counted each time it is reached (what is shared counts as often as it is met; a slice's spare places count too). A statement '..UptoSaid' is the law's where the arguments, and the package variables that the reading takes, are together of bulk at most 1048576: NARROWER than '..Said'. Prove '..Said' where nothing that the law and all that it calls make is longer than what came in: it says more and counts as full. Else prove '..UptoSaid'. A law counts once. -/
mutual
def uptoBulk {H : Type} : DataW H → Nat
  | .lit (.string bytes) => bytes.length + 1
  | .lit _ => 1
  | .nil => 1
  | .ptr d => uptoBulk d + 1
  | .slice elems spare => uptoBulkAll elems + uptoBulkAll spare + 1
  | .agg parts => uptoBulkAll parts + 1
  | .iface _ d => uptoBulk d + 1
  | .map entries => uptoBulkEntries entries + 1
  | .held _ => 1
def uptoBulkAll {H : Type} : List (DataW H) → Nat
  | [] => 0
  | d :: r => uptoBulk d + uptoBulkAll r
def uptoBulkEntries {H : Type} : List (Lit × DataW H) → Nat
  | [] => 0
  | x :: r => uptoBulkEntry x + uptoBulkEntries r
def uptoBulkEntry {H : Type} : Lit × DataW H → Nat
  | (.string bytes, d) => bytes.length + uptoBulk d + 1
  | (_, d) => uptoBulk d + 1
 end
def uptoSmall : (H : Type) → List (DataW H) → Bool := fun _ ds => decide (uptoBulkAll ds ≤ 1048576)
def OpenSpec.upto (s : _root_.Go.ChangeSpec) : _root_.Go.OpenSpec := { _root_.Go.OpenSpec.ofChange s with cond := some uptoSmall }

/-- 'interleaflaw01.DigitSizes', WHERE WHAT IT READS IS OF BULK AT MOST 1048576: true; the input reads as it did. -/
def digitSizesUptoRow : OpenClaim := { program := "ythaibfmnpcpkfaa", sum := "d69b4160dd39f95f5940ad6ee6ed1db5c93873a7f61bc8e2057288dc3811e788", func := "interleaf/interleaflaw01.DigitSizes", spec := "digitSizes", apart := false, narrowed := true }
def DigitSizesUptoSaid : Prop := digitSizesUptoRow.holds Try.pinned (OpenSpec.upto digitSizesSpec)

/-- 'interleaflaw01.DigitRaws', WHERE WHAT IT READS IS OF BULK AT MOST 1048576: true; the input reads as it did. -/
def digitRawsUptoRow : OpenClaim := { program := "ythaibfmnpcpkfaa", sum := "d69b4160dd39f95f5940ad6ee6ed1db5c93873a7f61bc8e2057288dc3811e788", func := "interleaf/interleaflaw01.DigitRaws", spec := "digitRaws", apart := false, narrowed := true }
def DigitRawsUptoSaid : Prop := digitRawsUptoRow.holds Try.pinned (OpenSpec.upto digitRawsSpec)

/-- 'interleaflaw01.DigitNums', WHERE WHAT IT READS IS OF BULK AT MOST 1048576: true; the input reads as it did. -/
def digitNumsUptoRow : OpenClaim := { program := "ythaibfmnpcpkfaa", sum := "d69b4160dd39f95f5940ad6ee6ed1db5c93873a7f61bc8e2057288dc3811e788", func := "interleaf/interleaflaw01.DigitNums", spec := "digitNums", apart := false, narrowed := true }
def DigitNumsUptoSaid : Prop := digitNumsUptoRow.holds Try.pinned (OpenSpec.upto digitNumsSpec)

/-- 'interleaflaw01.DigitCuts', WHERE WHAT IT READS IS OF BULK AT MOST 1048576: true; the input reads as it did. -/
def digitCutsUptoRow : OpenClaim := { program := "ythaibfmnpcpkfaa", sum := "d69b4160dd39f95f5940ad6ee6ed1db5c93873a7f61bc8e2057288dc3811e788", func := "interleaf/interleaflaw01.DigitCuts", spec := "digitCuts", apart := false, narrowed := true }
def DigitCutsUptoSaid : Prop := digitCutsUptoRow.holds Try.pinned (OpenSpec.upto digitCutsSpec)

/-- 'interleaflaw01.DigitTexts', WHERE WHAT IT READS IS OF BULK AT MOST 1048576: true; the input reads as it did. -/
def digitTextsUptoRow : OpenClaim := { program := "ythaibfmnpcpkfaa", sum := "d69b4160dd39f95f5940ad6ee6ed1db5c93873a7f61bc8e2057288dc3811e788", func := "interleaf/interleaflaw01.DigitTexts", spec := "digitTexts", apart := false, narrowed := true }
def DigitTextsUptoSaid : Prop := digitTextsUptoRow.holds Try.pinned (OpenSpec.upto digitTextsSpec)

/-- 'interleaflaw10.WireOne', WHERE WHAT IT READS IS OF BULK AT MOST 1048576: true; the input reads as it did. -/
def wireOneUptoRow : OpenClaim := { program := "ythaibfmnpcpkfaa", sum := "d69b4160dd39f95f5940ad6ee6ed1db5c93873a7f61bc8e2057288dc3811e788", func := "interleaf/interleaflaw10.WireOne", spec := "wireOne", apart := false, narrowed := true }
def WireOneUptoSaid : Prop := wireOneUptoRow.holds Try.pinned (OpenSpec.upto wireOneSpec)

end Rows
end Go.Proofs.Ythaibfmnpcpkfaa
