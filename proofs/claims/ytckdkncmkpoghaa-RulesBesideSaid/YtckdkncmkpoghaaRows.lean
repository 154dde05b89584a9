/-
  No cell of these rows narrows 'for every input' (looked for: loops, veiled, ifaces, maps, wideKeys, modest, calm, conditions, laid).
  DERIVED. THE GIVEN ROWS OF THIS SEAT. 10 by the template 'for every input the law returns true; each argument reads behind the call as it read before'; 0 by the template 'total and deterministic' (their statements: YtckdkncmkpoghaaTotals.lean).
  GIVEN WITH THE SEED: the statements are not yours to turn. If you find one false, say at which input.
  Laid BY PROGRAM, IN A SANDBOX (cutbox-rows.mjs): the forced cells as the released guide's own fill.sh prints them over the translation 76210bed817bc183… (all of the seat's roots in one cut). By AI agents, Wed Nov 11 2026. No macro, syntax, notation, axiom, sorry.
-/
import Derived.Test.YtckdkncmkpoghaaChecked
import GoSem.Claim
import GoSem.ClaimJoined
import GoSem.ClaimMapViews
import Derived.JoinedTies
import Derived.KernelRfl
namespace Go.Proofs.Ytckdkncmkpoghaa
/- THE CELL 'sum', in the pinned program and in every row, IS THE sha256 OF THE DUMP (.gsa) THAT YtckdkncmkpoghaaProg.lean LOADS. Nothing in Lean hashes anything: it is a label: what it is worth is what the hold of that sum in a sandbox is worth. -/
noncomputable def Try.pinned : Pinned := { name := "ytckdkncmkpoghaa", sum := "76210bed817bc1836715418919e4e17b51f728c1a5ba246d389aae4dd9256edc", checked := Try.checked }
namespace Rows
def none {H : Type} : Left H := { results := [], args := [] }

/-- 'interleaflaw10.WireBytes': WHATEVER THE INPUT: true; the input reads as it did. -/
def wireBytesSpec : ChangeSpec := { name := "wireBytes", fn := fun _ => fun
  | [d1, d2, d3] => { results := [.lit (.bool true)], args := [d1, d2, d3] }
  | _ => none }
def wireBytesRow : OpenClaim := { program := "ytckdkncmkpoghaa", sum := "76210bed817bc1836715418919e4e17b51f728c1a5ba246d389aae4dd9256edc", func := "interleaf/interleaflaw10.WireBytes", spec := "wireBytes", apart := false }
def WireBytesSaid : Prop := wireBytesRow.holds Try.pinned (OpenSpec.ofChange wireBytesSpec)

/-- ITS FALSE NEIGHBOUR: 'it returns false'. Refute it at one input. -/
def wireBytesWrong : ChangeSpec := { name := "wireBytes", fn := fun _ => fun
  | [d1, d2, d3] => { results := [.lit (.bool false)], args := [d1, d2, d3] }
  | _ => none }
def WireBytesWrongFalsely : Prop := wireBytesRow.holds Try.pinned (OpenSpec.ofChange wireBytesWrong)

/-- 'interleaflaw10.WireReads': WHATEVER THE INPUT: true; the input reads as it did. -/
def wireReadsSpec : ChangeSpec := { name := "wireReads", fn := fun _ => fun
  | [d1, d2, d3, d4, d5] => { results := [.lit (.bool true)], args := [d1, d2, d3, d4, d5] }
  | _ => none }
def wireReadsRow : OpenClaim := { program := "ytckdkncmkpoghaa", sum := "76210bed817bc1836715418919e4e17b51f728c1a5ba246d389aae4dd9256edc", func := "interleaf/interleaflaw10.WireReads", spec := "wireReads", apart := false }
def WireReadsSaid : Prop := wireReadsRow.holds Try.pinned (OpenSpec.ofChange wireReadsSpec)

/-- ITS FALSE NEIGHBOUR: 'it returns false'. Refute it at one input. -/
def wireReadsWrong : ChangeSpec := { name := "wireReads", fn := fun _ => fun
  | [d1, d2, d3, d4, d5] => { results := [.lit (.bool false)], args := [d1, d2, d3, d4, d5] }
  | _ => none }
def WireReadsWrongFalsely : Prop := wireReadsRow.holds Try.pinned (OpenSpec.ofChange wireReadsWrong)

/-- 'interleaflaw10.WireBounds': WHATEVER THE INPUT: true; the input reads as it did. -/
def wireBoundsSpec : ChangeSpec := { name := "wireBounds", fn := fun _ => fun
  | [d1, d2] => { results := [.lit (.bool true)], args := [d1, d2] }
  | _ => none }
def wireBoundsRow : OpenClaim := { program := "ytckdkncmkpoghaa", sum := "76210bed817bc1836715418919e4e17b51f728c1a5ba246d389aae4dd9256edc", func := "interleaf/interleaflaw10.WireBounds", spec := "wireBounds", apart := false }
def WireBoundsSaid : Prop := wireBoundsRow.holds Try.pinned (OpenSpec.ofChange wireBoundsSpec)

/-- ITS FALSE NEIGHBOUR: 'it returns false'. Refute it at one input. -/
def wireBoundsWrong : ChangeSpec := { name := "wireBounds", fn := fun _ => fun
  | [d1, d2] => { results := [.lit (.bool false)], args := [d1, d2] }
  | _ => none }
def WireBoundsWrongFalsely : Prop := wireBoundsRow.holds Try.pinned (OpenSpec.ofChange wireBoundsWrong)

/-- 'interleaflaw10.WireApart': WHATEVER THE INPUT: true; the input reads as it did. -/
def wireApartSpec : ChangeSpec := { name := "wireApart", fn := fun _ => fun
  | [d1, d2, d3] => { results := [.lit (.bool true)], args := [d1, d2, d3] }
  | _ => none }
def wireApartRow : OpenClaim := { program := "ytckdkncmkpoghaa", sum := "76210bed817bc1836715418919e4e17b51f728c1a5ba246d389aae4dd9256edc", func := "interleaf/interleaflaw10.WireApart", spec := "wireApart", apart := false }
def WireApartSaid : Prop := wireApartRow.holds Try.pinned (OpenSpec.ofChange wireApartSpec)

/-- ITS FALSE NEIGHBOUR: 'it returns false'. Refute it at one input. -/
def wireApartWrong : ChangeSpec := { name := "wireApart", fn := fun _ => fun
  | [d1, d2, d3] => { results := [.lit (.bool false)], args := [d1, d2, d3] }
  | _ => none }
def WireApartWrongFalsely : Prop := wireApartRow.holds Try.pinned (OpenSpec.ofChange wireApartWrong)

/-- 'interleaflaw11.RulesRaw': WHATEVER THE INPUT: true; the input reads as it did. -/
def rulesRawSpec : ChangeSpec := { name := "rulesRaw", fn := fun _ => fun
  | [d] => { results := [.lit (.bool true)], args := [d] }
  | _ => none }
def rulesRawRow : OpenClaim := { program := "ytckdkncmkpoghaa", sum := "76210bed817bc1836715418919e4e17b51f728c1a5ba246d389aae4dd9256edc", func := "interleaf/interleaflaw11.RulesRaw", spec := "rulesRaw", unfollowed := true, recurses := true, apart := false }
def RulesRawSaid : Prop := rulesRawRow.holds Try.pinned (OpenSpec.ofChange rulesRawSpec)

/-- ITS FALSE NEIGHBOUR: 'it returns false'. Refute it at one input. -/
def rulesRawWrong : ChangeSpec := { name := "rulesRaw", fn := fun _ => fun
  | [d] => { results := [.lit (.bool false)], args := [d] }
  | _ => none }
def RulesRawWrongFalsely : Prop := rulesRawRow.holds Try.pinned (OpenSpec.ofChange rulesRawWrong)

/-- 'interleaflaw11.RulesNear': WHATEVER THE INPUT: true; the input reads as it did. -/
def rulesNearSpec : ChangeSpec := { name := "rulesNear", fn := fun _ => fun
  | [d1, d2, d3, d4, d5, d6] => { results := [.lit (.bool true)], args := [d1, d2, d3, d4, d5, d6] }
  | _ => none }
def rulesNearRow : OpenClaim := { program := "ytckdkncmkpoghaa", sum := "76210bed817bc1836715418919e4e17b51f728c1a5ba246d389aae4dd9256edc", func := "interleaf/interleaflaw11.RulesNear", spec := "rulesNear", unfollowed := true, recurses := true, apart := false }
def RulesNearSaid : Prop := rulesNearRow.holds Try.pinned (OpenSpec.ofChange rulesNearSpec)

/-- ITS FALSE NEIGHBOUR: 'it returns false'. Refute it at one input. -/
def rulesNearWrong : ChangeSpec := { name := "rulesNear", fn := fun _ => fun
  | [d1, d2, d3, d4, d5, d6] => { results := [.lit (.bool false)], args := [d1, d2, d3, d4, d5, d6] }
  | _ => none }
def RulesNearWrongFalsely : Prop := rulesNearRow.holds Try.pinned (OpenSpec.ofChange rulesNearWrong)

/-- 'interleaflaw11.RulesOne': WHATEVER THE INPUT: true; the input reads as it did. -/
def rulesOneSpec : ChangeSpec := { name := "rulesOne", fn := fun _ => fun
  | [d] => { results := [.lit (.bool true)], args := [d] }
  | _ => none }
def rulesOneRow : OpenClaim := { program := "ytckdkncmkpoghaa", sum := "76210bed817bc1836715418919e4e17b51f728c1a5ba246d389aae4dd9256edc", func := "interleaf/interleaflaw11.RulesOne", spec := "rulesOne", unfollowed := true, recurses := true, apart := false }
def RulesOneSaid : Prop := rulesOneRow.holds Try.pinned (OpenSpec.ofChange rulesOneSpec)

/-- ITS FALSE NEIGHBOUR: 'it returns false'. Refute it at one input. -/
def rulesOneWrong : ChangeSpec := { name := "rulesOne", fn := fun _ => fun
  | [d] => { results := [.lit (.bool false)], args := [d] }
  | _ => none }
def RulesOneWrongFalsely : Prop := rulesOneRow.holds Try.pinned (OpenSpec.ofChange rulesOneWrong)

/-- 'interleaflaw11.RulesDeep': WHATEVER THE INPUT: true; the input reads as it did. -/
def rulesDeepSpec : ChangeSpec := { name := "rulesDeep", fn := fun _ => fun
  | [d1, d2] => { results := [.lit (.bool true)], args := [d1, d2] }
  | _ => none }
def rulesDeepRow : OpenClaim := { program := "ytckdkncmkpoghaa", sum := "76210bed817bc1836715418919e4e17b51f728c1a5ba246d389aae4dd9256edc", func := "interleaf/interleaflaw11.RulesDeep", spec := "rulesDeep", unfollowed := true, recurses := true, apart := false }
def RulesDeepSaid : Prop := rulesDeepRow.holds Try.pinned (OpenSpec.ofChange rulesDeepSpec)

/-- ITS FALSE NEIGHBOUR: 'it returns false'. Refute it at one input. -/
def rulesDeepWrong : ChangeSpec := { name := "rulesDeep", fn := fun _ => fun
  | [d1, d2] => { results := [.lit (.bool false)], args := [d1, d2] }
  | _ => none }
def RulesDeepWrongFalsely : Prop := rulesDeepRow.holds Try.pinned (OpenSpec.ofChange rulesDeepWrong)

/-- 'interleaflaw11.RulesBeside': WHATEVER THE INPUT: true; the input reads as it did. -/
def rulesBesideSpec : ChangeSpec := { name := "rulesBeside", fn := fun _ => fun
  | [d1, d2, d3] => { results := [.lit (.bool true)], args := [d1, d2, d3] }
  | _ => none }
def rulesBesideRow : OpenClaim := { program := "ytckdkncmkpoghaa", sum := "76210bed817bc1836715418919e4e17b51f728c1a5ba246d389aae4dd9256edc", func := "interleaf/interleaflaw11.RulesBeside", spec := "rulesBeside", unfollowed := true, recurses := true, apart := false }
def RulesBesideSaid : Prop := rulesBesideRow.holds Try.pinned (OpenSpec.ofChange rulesBesideSpec)

/-- ITS FALSE NEIGHBOUR: 'it returns false'. Refute it at one input. -/
def rulesBesideWrong : ChangeSpec := { name := "rulesBeside", fn := fun _ => fun
  | [d1, d2, d3] => { results := [.lit (.bool false)], args := [d1, d2, d3] }
  | _ => none }
def RulesBesideWrongFalsely : Prop := rulesBesideRow.holds Try.pinned (OpenSpec.ofChange rulesBesideWrong)

/-- 'interleaflaw11.RulesSides': WHATEVER THE INPUT: true; the input reads as it did. -/
def rulesSidesSpec : ChangeSpec := { name := "rulesSides", fn := fun _ => fun
  | [d1, d2, d3] => { results := [.lit (.bool true)], args := [d1, d2, d3] }
  | _ => none }
def rulesSidesRow : OpenClaim := { program := "ytckdkncmkpoghaa", sum := "76210bed817bc1836715418919e4e17b51f728c1a5ba246d389aae4dd9256edc", func := "interleaf/interleaflaw11.RulesSides", spec := "rulesSides", unfollowed := true, recurses := true, apart := false }
def RulesSidesSaid : Prop := rulesSidesRow.holds Try.pinned (OpenSpec.ofChange rulesSidesSpec)

/-- ITS FALSE NEIGHBOUR: 'it returns false'. Refute it at one input. -/
def rulesSidesWrong : ChangeSpec := { name := "rulesSides", fn := fun _ => fun
  | [d1, d2, d3] => { results := [.lit (.bool false)], args := [d1, d2, d3] }
  | _ => none }
def RulesSidesWrongFalsely : Prop := rulesSidesRow.holds Try.pinned (OpenSpec.ofChange rulesSidesWrong)

/- THE SECOND FORM. 'bulk': how many values and letters a reading holds, each counted each time it is reached (what is shared counts as often as it is met; a slice's spare places count too). A statement '..UptoSaid' is the law's where the arguments, and the package variables that the reading takes, are together of bulk at most 1048576: NARROWER than '..Said'. Prove '..Said' where nothing that the law and all that it calls make is longer than what came in: it says more and counts as full. Else prove '..UptoSaid'. A law counts once. -/
mutual
def uptoBulk {H : Type} : DataW H → Nat
  | .lit (.string bytes) => bytes.length + 1
  | .lit _ => 1
  | .nil => 1
  | .ptr d => uptoBulk d + 1
  | .slice elems spare => uptoBulkAll elems + uptoBulkAll spare + 1
  | .agg parts => uptoBulkAll parts + 1
  | .iface _ d => uptoBulk d + 1
  | .map entries => uptoBulkEntries entries + 1
  | .held _ => 1
def uptoBulkAll {H : Type} : List (DataW H) → Nat
  | [] => 0
  | d :: r => uptoBulk d + uptoBulkAll r
def uptoBulkEntries {H : Type} : List (Lit × DataW H) → Nat
  | [] => 0
  | x :: r => uptoBulkEntry x + uptoBulkEntries r
def uptoBulkEntry {H : Type} : Lit × DataW H → Nat
  | (.string bytes, d) => bytes.length + uptoBulk d + 1
  | (_, d) => uptoBulk d + 1
 end
def uptoSmall : (H : Type) → List (DataW H) → Bool := fun _ ds => decide (uptoBulkAll ds ≤ 1048576)
def OpenSpec.upto (s : _root_.Go.ChangeSpec) : _root_.Go.OpenSpec := { _root_.Go.OpenSpec.ofChange s with cond := some uptoSmall }

/-- 'interleaflaw10.WireBytes', WHERE WHAT IT READS IS OF BULK AT MOST 1048576: true; the input reads as it did. -/
def wireBytesUptoRow : OpenClaim := { program := "ytckdkncmkpoghaa", sum := "76210bed817bc1836715418919e4e17b51f728c1a5ba246d389aae4dd9256edc", func := "interleaf/interleaflaw10.WireBytes", spec := "wireBytes", apart := false, narrowed := true }
def WireBytesUptoSaid : Prop := wireBytesUptoRow.holds Try.pinned (OpenSpec.upto wireBytesSpec)

/-- 'interleaflaw10.WireReads', WHERE WHAT IT READS IS OF BULK AT MOST 1048576: true; the input reads as it did. -/
def wireReadsUptoRow : OpenClaim := { program := "ytckdkncmkpoghaa", sum := "76210bed817bc1836715418919e4e17b51f728c1a5ba246d389aae4dd9256edc", func := "interleaf/interleaflaw10.WireReads", spec := "wireReads", apart := false, narrowed := true }
def WireReadsUptoSaid : Prop := wireReadsUptoRow.holds Try.pinned (OpenSpec.upto wireReadsSpec)

/-- 'interleaflaw10.WireBounds', WHERE WHAT IT READS IS OF BULK AT MOST 1048576: true; the input reads as it did. -/
def wireBoundsUptoRow : OpenClaim := { program := "ytckdkncmkpoghaa", sum := "76210bed817bc1836715418919e4e17b51f728c1a5ba246d389aae4dd9256edc", func := "interleaf/interleaflaw10.WireBounds", spec := "wireBounds", apart := false, narrowed := true }
def WireBoundsUptoSaid : Prop := wireBoundsUptoRow.holds Try.pinned (OpenSpec.upto wireBoundsSpec)

/-- 'interleaflaw10.WireApart', WHERE WHAT IT READS IS OF BULK AT MOST 1048576: true; the input reads as it did. -/
def wireApartUptoRow : OpenClaim := { program := "ytckdkncmkpoghaa", sum := "76210bed817bc1836715418919e4e17b51f728c1a5ba246d389aae4dd9256edc", func := "interleaf/interleaflaw10.WireApart", spec := "wireApart", apart := false, narrowed := true }
def WireApartUptoSaid : Prop := wireApartUptoRow.holds Try.pinned (OpenSpec.upto wireApartSpec)

/-- 'interleaflaw11.RulesRaw', WHERE WHAT IT READS IS OF BULK AT MOST 1048576: true; the input reads as it did. -/
def rulesRawUptoRow : OpenClaim := { program := "ytckdkncmkpoghaa", sum := "76210bed817bc1836715418919e4e17b51f728c1a5ba246d389aae4dd9256edc", func := "interleaf/interleaflaw11.RulesRaw", spec := "rulesRaw", unfollowed := true, recurses := true, apart := false, narrowed := true }
def RulesRawUptoSaid : Prop := rulesRawUptoRow.holds Try.pinned (OpenSpec.upto rulesRawSpec)

/-- 'interleaflaw11.RulesNear', WHERE WHAT IT READS IS OF BULK AT MOST 1048576: true; the input reads as it did. -/
def rulesNearUptoRow : OpenClaim := { program := "ytckdkncmkpoghaa", sum := "76210bed817bc1836715418919e4e17b51f728c1a5ba246d389aae4dd9256edc", func := "interleaf/interleaflaw11.RulesNear", spec := "rulesNear", unfollowed := true, recurses := true, apart := false, narrowed := true }
def RulesNearUptoSaid : Prop := rulesNearUptoRow.holds Try.pinned (OpenSpec.upto rulesNearSpec)

/-- 'interleaflaw11.RulesOne', WHERE WHAT IT READS IS OF BULK AT MOST 1048576: true; the input reads as it did. -/
def rulesOneUptoRow : OpenClaim := { program := "ytckdkncmkpoghaa", sum := "76210bed817bc1836715418919e4e17b51f728c1a5ba246d389aae4dd9256edc", func := "interleaf/interleaflaw11.RulesOne", spec := "rulesOne", unfollowed := true, recurses := true, apart := false, narrowed := true }
def RulesOneUptoSaid : Prop := rulesOneUptoRow.holds Try.pinned (OpenSpec.upto rulesOneSpec)

/-- 'interleaflaw11.RulesDeep', WHERE WHAT IT READS IS OF BULK AT MOST 1048576: true; the input reads as it did. -/
def rulesDeepUptoRow : OpenClaim := { program := "ytckdkncmkpoghaa", sum := "76210bed817bc1836715418919e4e17b51f728c1a5ba246d389aae4dd9256edc", func := "interleaf/interleaflaw11.RulesDeep", spec := "rulesDeep", unfollowed := true, recurses := true, apart := false, narrowed := true }
def RulesDeepUptoSaid : Prop := rulesDeepUptoRow.holds Try.pinned (OpenSpec.upto rulesDeepSpec)

/-- 'interleaflaw11.RulesBeside', WHERE WHAT IT READS IS OF BULK AT MOST 1048576: true; the input reads as it did. -/
def rulesBesideUptoRow : OpenClaim := { program := "ytckdkncmkpoghaa", sum := "76210bed817bc1836715418919e4e17b51f728c1a5ba246d389aae4dd9256edc", func := "interleaf/interleaflaw11.RulesBeside", spec := "rulesBeside", unfollowed := true, recurses := true, apart := false, narrowed := true }
def RulesBesideUptoSaid : Prop := rulesBesideUptoRow.holds Try.pinned (OpenSpec.upto rulesBesideSpec)

/-- 'interleaflaw11.RulesSides', WHERE WHAT IT READS IS OF BULK AT MOST 1048576: true; the input reads as it did. -/
def rulesSidesUptoRow : OpenClaim := { program := "ytckdkncmkpoghaa", sum := "76210bed817bc1836715418919e4e17b51f728c1a5ba246d389aae4dd9256edc", func := "interleaf/interleaflaw11.RulesSides", spec := "rulesSides", unfollowed := true, recurses := true, apart := false, narrowed := true }
def RulesSidesUptoSaid : Prop := rulesSidesUptoRow.holds Try.pinned (OpenSpec.upto rulesSidesSpec)

end Rows
end Go.Proofs.Ytckdkncmkpoghaa
