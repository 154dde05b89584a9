/-
  No cell of these rows narrows 'for every input' (looked for: loops, veiled, ifaces, maps, wideKeys, modest, calm, conditions, laid).
  DERIVED. THE GIVEN ROWS OF THIS SEAT. 8 by the template 'for every input the law returns true; each argument reads behind the call as it read before'; 0 by the template 'total and deterministic' (their statements: YtfaegieaicigcaaTotals.lean).
  GIVEN WITH THE SEED: the statements are not yours to turn. If you find one false, say at which input.
  Laid BY PROGRAM, IN A SANDBOX (cutbox-rows.mjs): the forced cells as the released guide's own fill.sh prints them over the translation da98f3f34882ed54… (all of the seat's roots in one cut). By AI agents, Wed Nov 11 2026. No macro, syntax, notation, axiom, sorry.
-/
import Derived.Test.YtfaegieaicigcaaChecked
import GoSem.Claim
import GoSem.ClaimJoined
import GoSem.ClaimMapViews
import Derived.JoinedTies
import Derived.KernelRfl
namespace Go.Proofs.Ytfaegieaicigcaa
/- THE CELL 'sum', in the pinned program and in every row, IS THE sha256 OF THE DUMP (.gsa) THAT YtfaegieaicigcaaProg.lean LOADS. Nothing in Lean hashes anything: it is a label: what it is worth is what the hold of that sum in a sandbox is worth. -/
noncomputable def Try.pinned : Pinned := { name := "ytfaegieaicigcaa", sum := "da98f3f34882ed54f10231154cc674d6fe303d52c4106b1dc4a71ac977a69c97", checked := Try.checked }
namespace Rows
def none {H : Type} : Left H := { results := [], args := [] }

/-- 'interleaflaw17.CommitReads': WHATEVER THE INPUT: true; the input reads as it did. -/
def commitReadsSpec : ChangeSpec := { name := "commitReads", fn := fun _ => fun
  | [d1, d2, d3, d4, d5] => { results := [.lit (.bool true)], args := [d1, d2, d3, d4, d5] }
  | _ => none }
def commitReadsRow : OpenClaim := { program := "ytfaegieaicigcaa", sum := "da98f3f34882ed54f10231154cc674d6fe303d52c4106b1dc4a71ac977a69c97", func := "interleaf/interleaflaw17.CommitReads", spec := "commitReads", apart := false }
def CommitReadsSaid : Prop := commitReadsRow.holds Try.pinned (OpenSpec.ofChange commitReadsSpec)

/-- ITS FALSE NEIGHBOUR: 'it returns false'. Refute it at one input. -/
def commitReadsWrong : ChangeSpec := { name := "commitReads", fn := fun _ => fun
  | [d1, d2, d3, d4, d5] => { results := [.lit (.bool false)], args := [d1, d2, d3, d4, d5] }
  | _ => none }
def CommitReadsWrongFalsely : Prop := commitReadsRow.holds Try.pinned (OpenSpec.ofChange commitReadsWrong)

/-- 'interleaflaw17.CommitBounds': WHATEVER THE INPUT: true; the input reads as it did. -/
def commitBoundsSpec : ChangeSpec := { name := "commitBounds", fn := fun _ => fun
  | [d1, d2] => { results := [.lit (.bool true)], args := [d1, d2] }
  | _ => none }
def commitBoundsRow : OpenClaim := { program := "ytfaegieaicigcaa", sum := "da98f3f34882ed54f10231154cc674d6fe303d52c4106b1dc4a71ac977a69c97", func := "interleaf/interleaflaw17.CommitBounds", spec := "commitBounds", apart := false }
def CommitBoundsSaid : Prop := commitBoundsRow.holds Try.pinned (OpenSpec.ofChange commitBoundsSpec)

/-- ITS FALSE NEIGHBOUR: 'it returns false'. Refute it at one input. -/
def commitBoundsWrong : ChangeSpec := { name := "commitBounds", fn := fun _ => fun
  | [d1, d2] => { results := [.lit (.bool false)], args := [d1, d2] }
  | _ => none }
def CommitBoundsWrongFalsely : Prop := commitBoundsRow.holds Try.pinned (OpenSpec.ofChange commitBoundsWrong)

/-- 'interleaflaw17.CommitApart': WHATEVER THE INPUT: true; the input reads as it did. -/
def commitApartSpec : ChangeSpec := { name := "commitApart", fn := fun _ => fun
  | [d1, d2, d3] => { results := [.lit (.bool true)], args := [d1, d2, d3] }
  | _ => none }
def commitApartRow : OpenClaim := { program := "ytfaegieaicigcaa", sum := "da98f3f34882ed54f10231154cc674d6fe303d52c4106b1dc4a71ac977a69c97", func := "interleaf/interleaflaw17.CommitApart", spec := "commitApart", apart := false }
def CommitApartSaid : Prop := commitApartRow.holds Try.pinned (OpenSpec.ofChange commitApartSpec)

/-- ITS FALSE NEIGHBOUR: 'it returns false'. Refute it at one input. -/
def commitApartWrong : ChangeSpec := { name := "commitApart", fn := fun _ => fun
  | [d1, d2, d3] => { results := [.lit (.bool false)], args := [d1, d2, d3] }
  | _ => none }
def CommitApartWrongFalsely : Prop := commitApartRow.holds Try.pinned (OpenSpec.ofChange commitApartWrong)

/-- 'interleaflaw15.DeltaMakes': WHATEVER THE INPUT: true; the input reads as it did. -/
def deltaMakesSpec : ChangeSpec := { name := "deltaMakes", fn := fun _ => fun
  | [d1, d2, d3, d4, d5] => { results := [.lit (.bool true)], args := [d1, d2, d3, d4, d5] }
  | _ => none }
def deltaMakesRow : OpenClaim := { program := "ytfaegieaicigcaa", sum := "da98f3f34882ed54f10231154cc674d6fe303d52c4106b1dc4a71ac977a69c97", func := "interleaf/interleaflaw15.DeltaMakes", spec := "deltaMakes", apart := false }
def DeltaMakesSaid : Prop := deltaMakesRow.holds Try.pinned (OpenSpec.ofChange deltaMakesSpec)

/-- ITS FALSE NEIGHBOUR: 'it returns false'. Refute it at one input. -/
def deltaMakesWrong : ChangeSpec := { name := "deltaMakes", fn := fun _ => fun
  | [d1, d2, d3, d4, d5] => { results := [.lit (.bool false)], args := [d1, d2, d3, d4, d5] }
  | _ => none }
def DeltaMakesWrongFalsely : Prop := deltaMakesRow.holds Try.pinned (OpenSpec.ofChange deltaMakesWrong)

/-- 'interleaflaw15.DeltaReads': WHATEVER THE INPUT: true; the input reads as it did. -/
def deltaReadsSpec : ChangeSpec := { name := "deltaReads", fn := fun _ => fun
  | [d1, d2, d3, d4, d5] => { results := [.lit (.bool true)], args := [d1, d2, d3, d4, d5] }
  | _ => none }
def deltaReadsRow : OpenClaim := { program := "ytfaegieaicigcaa", sum := "da98f3f34882ed54f10231154cc674d6fe303d52c4106b1dc4a71ac977a69c97", func := "interleaf/interleaflaw15.DeltaReads", spec := "deltaReads", apart := false }
def DeltaReadsSaid : Prop := deltaReadsRow.holds Try.pinned (OpenSpec.ofChange deltaReadsSpec)

/-- ITS FALSE NEIGHBOUR: 'it returns false'. Refute it at one input. -/
def deltaReadsWrong : ChangeSpec := { name := "deltaReads", fn := fun _ => fun
  | [d1, d2, d3, d4, d5] => { results := [.lit (.bool false)], args := [d1, d2, d3, d4, d5] }
  | _ => none }
def DeltaReadsWrongFalsely : Prop := deltaReadsRow.holds Try.pinned (OpenSpec.ofChange deltaReadsWrong)

/-- 'interleaflaw15.DeltaLong': WHATEVER THE INPUT: true; the input reads as it did. -/
def deltaLongSpec : ChangeSpec := { name := "deltaLong", fn := fun _ => fun
  | [d1, d2] => { results := [.lit (.bool true)], args := [d1, d2] }
  | _ => none }
def deltaLongRow : OpenClaim := { program := "ytfaegieaicigcaa", sum := "da98f3f34882ed54f10231154cc674d6fe303d52c4106b1dc4a71ac977a69c97", func := "interleaf/interleaflaw15.DeltaLong", spec := "deltaLong", apart := false }
def DeltaLongSaid : Prop := deltaLongRow.holds Try.pinned (OpenSpec.ofChange deltaLongSpec)

/-- ITS FALSE NEIGHBOUR: 'it returns false'. Refute it at one input. -/
def deltaLongWrong : ChangeSpec := { name := "deltaLong", fn := fun _ => fun
  | [d1, d2] => { results := [.lit (.bool false)], args := [d1, d2] }
  | _ => none }
def DeltaLongWrongFalsely : Prop := deltaLongRow.holds Try.pinned (OpenSpec.ofChange deltaLongWrong)

/-- 'interleaflaw15.DeltaAlone': WHATEVER THE INPUT: true; the input reads as it did. -/
def deltaAloneSpec : ChangeSpec := { name := "deltaAlone", fn := fun _ => fun
  | [d] => { results := [.lit (.bool true)], args := [d] }
  | _ => none }
def deltaAloneRow : OpenClaim := { program := "ytfaegieaicigcaa", sum := "da98f3f34882ed54f10231154cc674d6fe303d52c4106b1dc4a71ac977a69c97", func := "interleaf/interleaflaw15.DeltaAlone", spec := "deltaAlone", apart := false }
def DeltaAloneSaid : Prop := deltaAloneRow.holds Try.pinned (OpenSpec.ofChange deltaAloneSpec)

/-- ITS FALSE NEIGHBOUR: 'it returns false'. Refute it at one input. -/
def deltaAloneWrong : ChangeSpec := { name := "deltaAlone", fn := fun _ => fun
  | [d] => { results := [.lit (.bool false)], args := [d] }
  | _ => none }
def DeltaAloneWrongFalsely : Prop := deltaAloneRow.holds Try.pinned (OpenSpec.ofChange deltaAloneWrong)

/-- 'interleaflaw15.DeltaPieces': WHATEVER THE INPUT: true; the input reads as it did. -/
def deltaPiecesSpec : ChangeSpec := { name := "deltaPieces", fn := fun _ => fun
  | [d1, d2, d3] => { results := [.lit (.bool true)], args := [d1, d2, d3] }
  | _ => none }
def deltaPiecesRow : OpenClaim := { program := "ytfaegieaicigcaa", sum := "da98f3f34882ed54f10231154cc674d6fe303d52c4106b1dc4a71ac977a69c97", func := "interleaf/interleaflaw15.DeltaPieces", spec := "deltaPieces", apart := false }
def DeltaPiecesSaid : Prop := deltaPiecesRow.holds Try.pinned (OpenSpec.ofChange deltaPiecesSpec)

/-- ITS FALSE NEIGHBOUR: 'it returns false'. Refute it at one input. -/
def deltaPiecesWrong : ChangeSpec := { name := "deltaPieces", fn := fun _ => fun
  | [d1, d2, d3] => { results := [.lit (.bool false)], args := [d1, d2, d3] }
  | _ => none }
def DeltaPiecesWrongFalsely : Prop := deltaPiecesRow.holds Try.pinned (OpenSpec.ofChange deltaPiecesWrong)

/- THE SECOND FORM. 'bulk': how many values and letters a reading holds, each counted each time it is reached (what is shared counts as often as it is met; a slice's spare places count too). A statement '..UptoSaid' is the law's where the arguments, and the package variables that the reading takes, are together of bulk at most 1048576: NARROWER than '..Said'. Prove '..Said' where nothing that the law and all that it calls make is longer than what came in: it says more and counts as full. Else prove '..UptoSaid'. A law counts once. -/
mutual
def uptoBulk {H : Type} : DataW H → Nat
  | .lit (.string bytes) => bytes.length + 1
  | .lit _ => 1
  | .nil => 1
  | .ptr d => uptoBulk d + 1
  | .slice elems spare => uptoBulkAll elems + uptoBulkAll spare + 1
  | .agg parts => uptoBulkAll parts + 1
  | .iface _ d => uptoBulk d + 1
  | .map entries => uptoBulkEntries entries + 1
  | .held _ => 1
def uptoBulkAll {H : Type} : List (DataW H) → Nat
  | [] => 0
  | d :: r => uptoBulk d + uptoBulkAll r
def uptoBulkEntries {H : Type} : List (Lit × DataW H) → Nat
  | [] => 0
  | x :: r => uptoBulkEntry x + uptoBulkEntries r
def uptoBulkEntry {H : Type} : Lit × DataW H → Nat
  | (.string bytes, d) => bytes.length + uptoBulk d + 1
  | (_, d) => uptoBulk d + 1
 end
def uptoSmall : (H : Type) → List (DataW H) → Bool := fun _ ds => decide (uptoBulkAll ds ≤ 1048576)
def OpenSpec.upto (s : _root_.Go.ChangeSpec) : _root_.Go.OpenSpec := { _root_.Go.OpenSpec.ofChange s with cond := some uptoSmall }

/-- 'interleaflaw17.CommitReads', WHERE WHAT IT READS IS OF BULK AT MOST 1048576: true; the input reads as it did. -/
def commitReadsUptoRow : OpenClaim := { program := "ytfaegieaicigcaa", sum := "da98f3f34882ed54f10231154cc674d6fe303d52c4106b1dc4a71ac977a69c97", func := "interleaf/interleaflaw17.CommitReads", spec := "commitReads", apart := false, narrowed := true }
def CommitReadsUptoSaid : Prop := commitReadsUptoRow.holds Try.pinned (OpenSpec.upto commitReadsSpec)

/-- 'interleaflaw17.CommitBounds', WHERE WHAT IT READS IS OF BULK AT MOST 1048576: true; the input reads as it did. -/
def commitBoundsUptoRow : OpenClaim := { program := "ytfaegieaicigcaa", sum := "da98f3f34882ed54f10231154cc674d6fe303d52c4106b1dc4a71ac977a69c97", func := "interleaf/interleaflaw17.CommitBounds", spec := "commitBounds", apart := false, narrowed := true }
def CommitBoundsUptoSaid : Prop := commitBoundsUptoRow.holds Try.pinned (OpenSpec.upto commitBoundsSpec)

/-- 'interleaflaw17.CommitApart', WHERE WHAT IT READS IS OF BULK AT MOST 1048576: true; the input reads as it did. -/
def commitApartUptoRow : OpenClaim := { program := "ytfaegieaicigcaa", sum := "da98f3f34882ed54f10231154cc674d6fe303d52c4106b1dc4a71ac977a69c97", func := "interleaf/interleaflaw17.CommitApart", spec := "commitApart", apart := false, narrowed := true }
def CommitApartUptoSaid : Prop := commitApartUptoRow.holds Try.pinned (OpenSpec.upto commitApartSpec)

/-- 'interleaflaw15.DeltaMakes', WHERE WHAT IT READS IS OF BULK AT MOST 1048576: true; the input reads as it did. -/
def deltaMakesUptoRow : OpenClaim := { program := "ytfaegieaicigcaa", sum := "da98f3f34882ed54f10231154cc674d6fe303d52c4106b1dc4a71ac977a69c97", func := "interleaf/interleaflaw15.DeltaMakes", spec := "deltaMakes", apart := false, narrowed := true }
def DeltaMakesUptoSaid : Prop := deltaMakesUptoRow.holds Try.pinned (OpenSpec.upto deltaMakesSpec)

/-- 'interleaflaw15.DeltaReads', WHERE WHAT IT READS IS OF BULK AT MOST 1048576: true; the input reads as it did. -/
def deltaReadsUptoRow : OpenClaim := { program := "ytfaegieaicigcaa", sum := "da98f3f34882ed54f10231154cc674d6fe303d52c4106b1dc4a71ac977a69c97", func := "interleaf/interleaflaw15.DeltaReads", spec := "deltaReads", apart := false, narrowed := true }
def DeltaReadsUptoSaid : Prop := deltaReadsUptoRow.holds Try.pinned (OpenSpec.upto deltaReadsSpec)

/-- 'interleaflaw15.DeltaLong', WHERE WHAT IT READS IS OF BULK AT MOST 1048576: true; the input reads as it did. -/
def deltaLongUptoRow : OpenClaim := { program := "ytfaegieaicigcaa", sum := "da98f3f34882ed54f10231154cc674d6fe303d52c4106b1dc4a71ac977a69c97", func := "interleaf/interleaflaw15.DeltaLong", spec := "deltaLong", apart := false, narrowed := true }
def DeltaLongUptoSaid : Prop := deltaLongUptoRow.holds Try.pinned (OpenSpec.upto deltaLongSpec)

/-- 'interleaflaw15.DeltaAlone', WHERE WHAT IT READS IS OF BULK AT MOST 1048576: true; the input reads as it did. -/
def deltaAloneUptoRow : OpenClaim := { program := "ytfaegieaicigcaa", sum := "da98f3f34882ed54f10231154cc674d6fe303d52c4106b1dc4a71ac977a69c97", func := "interleaf/interleaflaw15.DeltaAlone", spec := "deltaAlone", apart := false, narrowed := true }
def DeltaAloneUptoSaid : Prop := deltaAloneUptoRow.holds Try.pinned (OpenSpec.upto deltaAloneSpec)

/-- 'interleaflaw15.DeltaPieces', WHERE WHAT IT READS IS OF BULK AT MOST 1048576: true; the input reads as it did. -/
def deltaPiecesUptoRow : OpenClaim := { program := "ytfaegieaicigcaa", sum := "da98f3f34882ed54f10231154cc674d6fe303d52c4106b1dc4a71ac977a69c97", func := "interleaf/interleaflaw15.DeltaPieces", spec := "deltaPieces", apart := false, narrowed := true }
def DeltaPiecesUptoSaid : Prop := deltaPiecesUptoRow.holds Try.pinned (OpenSpec.upto deltaPiecesSpec)

end Rows
end Go.Proofs.Ytfaegieaicigcaa
