/-
  No cell of these rows narrows 'for every input' (looked for: loops, veiled, ifaces, maps, wideKeys, modest, calm, conditions, laid).
  DERIVED. THE GIVEN ROWS OF THIS SEAT. 10 by the template 'for every input the law returns true; each argument reads behind the call as it read before'; 0 by the template 'total and deterministic' (their statements: YtnplbpmdehcknaaTotals.lean).
  GIVEN WITH THE SEED: the statements are not yours to turn. If you find one false, say at which input.
  Laid BY PROGRAM, IN A SANDBOX (cutbox-rows.mjs): the forced cells as the released guide's own fill.sh prints them over the translation c423a437d4d9a5f0… (all of the seat's roots in one cut). By AI agents, Wed Nov 11 2026. No macro, syntax, notation, axiom, sorry.
-/
import Derived.Test.YtnplbpmdehcknaaChecked
import GoSem.Claim
import GoSem.ClaimJoined
import GoSem.ClaimMapViews
import Derived.JoinedTies
import Derived.KernelRfl
namespace Go.Proofs.Ytnplbpmdehcknaa
/- THE CELL 'sum', in the pinned program and in every row, IS THE sha256 OF THE DUMP (.gsa) THAT YtnplbpmdehcknaaProg.lean LOADS. Nothing in Lean hashes anything: it is a label: what it is worth is what the hold of that sum in a sandbox is worth. -/
noncomputable def Try.pinned : Pinned := { name := "ytnplbpmdehcknaa", sum := "c423a437d4d9a5f03dea08b510474004ecb361eac29ec003e30775184cba5a6d", checked := Try.checked }
namespace Rows
def none {H : Type} : Left H := { results := [], args := [] }

/-- 'interleaflaw18.GraphAll': WHATEVER THE INPUT: true; the input reads as it did. -/
def graphAllSpec : ChangeSpec := { name := "graphAll", fn := fun _ => fun
  | [d1, d2] => { results := [.lit (.bool true)], args := [d1, d2] }
  | _ => none }
def graphAllRow : OpenClaim := { program := "ytnplbpmdehcknaa", sum := "c423a437d4d9a5f03dea08b510474004ecb361eac29ec003e30775184cba5a6d", func := "interleaf/interleaflaw18.GraphAll", spec := "graphAll", unfollowed := true, recurses := true, plainKeys := false, apart := false }
def GraphAllSaid : Prop := graphAllRow.holds Try.pinned (OpenSpec.ofChange graphAllSpec)

/-- ITS FALSE NEIGHBOUR: 'it returns false'. Refute it at one input. -/
def graphAllWrong : ChangeSpec := { name := "graphAll", fn := fun _ => fun
  | [d1, d2] => { results := [.lit (.bool false)], args := [d1, d2] }
  | _ => none }
def GraphAllWrongFalsely : Prop := graphAllRow.holds Try.pinned (OpenSpec.ofChange graphAllWrong)

/-- 'interleaflaw18.GraphBases': WHATEVER THE INPUT: true; the input reads as it did. -/
def graphBasesSpec : ChangeSpec := { name := "graphBases", fn := fun _ => fun
  | [d1, d2, d3] => { results := [.lit (.bool true)], args := [d1, d2, d3] }
  | _ => none }
def graphBasesRow : OpenClaim := { program := "ytnplbpmdehcknaa", sum := "c423a437d4d9a5f03dea08b510474004ecb361eac29ec003e30775184cba5a6d", func := "interleaf/interleaflaw18.GraphBases", spec := "graphBases", unfollowed := true, recurses := true, plainKeys := false, apart := false }
def GraphBasesSaid : Prop := graphBasesRow.holds Try.pinned (OpenSpec.ofChange graphBasesSpec)

/-- ITS FALSE NEIGHBOUR: 'it returns false'. Refute it at one input. -/
def graphBasesWrong : ChangeSpec := { name := "graphBases", fn := fun _ => fun
  | [d1, d2, d3] => { results := [.lit (.bool false)], args := [d1, d2, d3] }
  | _ => none }
def GraphBasesWrongFalsely : Prop := graphBasesRow.holds Try.pinned (OpenSpec.ofChange graphBasesWrong)

/-- 'interleaflaw18.GraphLost': WHATEVER THE INPUT: true; the input reads as it did. -/
def graphLostSpec : ChangeSpec := { name := "graphLost", fn := fun _ => fun
  | [d1, d2, d3, d4] => { results := [.lit (.bool true)], args := [d1, d2, d3, d4] }
  | _ => none }
def graphLostRow : OpenClaim := { program := "ytnplbpmdehcknaa", sum := "c423a437d4d9a5f03dea08b510474004ecb361eac29ec003e30775184cba5a6d", func := "interleaf/interleaflaw18.GraphLost", spec := "graphLost", unfollowed := true, recurses := true, plainKeys := false, apart := false }
def GraphLostSaid : Prop := graphLostRow.holds Try.pinned (OpenSpec.ofChange graphLostSpec)

/-- ITS FALSE NEIGHBOUR: 'it returns false'. Refute it at one input. -/
def graphLostWrong : ChangeSpec := { name := "graphLost", fn := fun _ => fun
  | [d1, d2, d3, d4] => { results := [.lit (.bool false)], args := [d1, d2, d3, d4] }
  | _ => none }
def GraphLostWrongFalsely : Prop := graphLostRow.holds Try.pinned (OpenSpec.ofChange graphLostWrong)

/-- 'interleaflaw18.GraphRow': WHATEVER THE INPUT: true; the input reads as it did. -/
def graphRowSpec : ChangeSpec := { name := "graphRow", fn := fun _ => fun
  | [d1, d2, d3] => { results := [.lit (.bool true)], args := [d1, d2, d3] }
  | _ => none }
def graphRowRow : OpenClaim := { program := "ytnplbpmdehcknaa", sum := "c423a437d4d9a5f03dea08b510474004ecb361eac29ec003e30775184cba5a6d", func := "interleaf/interleaflaw18.GraphRow", spec := "graphRow", unfollowed := true, recurses := true, plainKeys := false, apart := false }
def GraphRowSaid : Prop := graphRowRow.holds Try.pinned (OpenSpec.ofChange graphRowSpec)

/-- ITS FALSE NEIGHBOUR: 'it returns false'. Refute it at one input. -/
def graphRowWrong : ChangeSpec := { name := "graphRow", fn := fun _ => fun
  | [d1, d2, d3] => { results := [.lit (.bool false)], args := [d1, d2, d3] }
  | _ => none }
def GraphRowWrongFalsely : Prop := graphRowRow.holds Try.pinned (OpenSpec.ofChange graphRowWrong)

/-- 'interleaflaw18.GraphCross': WHATEVER THE INPUT: true; the input reads as it did. -/
def graphCrossSpec : ChangeSpec := { name := "graphCross", fn := fun _ => fun
  | [d1, d2, d3] => { results := [.lit (.bool true)], args := [d1, d2, d3] }
  | _ => none }
def graphCrossRow : OpenClaim := { program := "ytnplbpmdehcknaa", sum := "c423a437d4d9a5f03dea08b510474004ecb361eac29ec003e30775184cba5a6d", func := "interleaf/interleaflaw18.GraphCross", spec := "graphCross", unfollowed := true, recurses := true, plainKeys := false, apart := false }
def GraphCrossSaid : Prop := graphCrossRow.holds Try.pinned (OpenSpec.ofChange graphCrossSpec)

/-- ITS FALSE NEIGHBOUR: 'it returns false'. Refute it at one input. -/
def graphCrossWrong : ChangeSpec := { name := "graphCross", fn := fun _ => fun
  | [d1, d2, d3] => { results := [.lit (.bool false)], args := [d1, d2, d3] }
  | _ => none }
def GraphCrossWrongFalsely : Prop := graphCrossRow.holds Try.pinned (OpenSpec.ofChange graphCrossWrong)

/-- 'interleaflaw05.JournalMany': WHATEVER THE INPUT: true; the input reads as it did. -/
def journalManySpec : ChangeSpec := { name := "journalMany", fn := fun _ => fun
  | [d1, d2] => { results := [.lit (.bool true)], args := [d1, d2] }
  | _ => none }
def journalManyRow : OpenClaim := { program := "ytnplbpmdehcknaa", sum := "c423a437d4d9a5f03dea08b510474004ecb361eac29ec003e30775184cba5a6d", func := "interleaf/interleaflaw05.JournalMany", spec := "journalMany", unfollowed := true, recurses := true, plainKeys := false, apart := false }
def JournalManySaid : Prop := journalManyRow.holds Try.pinned (OpenSpec.ofChange journalManySpec)

/-- ITS FALSE NEIGHBOUR: 'it returns false'. Refute it at one input. -/
def journalManyWrong : ChangeSpec := { name := "journalMany", fn := fun _ => fun
  | [d1, d2] => { results := [.lit (.bool false)], args := [d1, d2] }
  | _ => none }
def JournalManyWrongFalsely : Prop := journalManyRow.holds Try.pinned (OpenSpec.ofChange journalManyWrong)

/-- 'interleaflaw05.JournalTwice': WHATEVER THE INPUT: true; the input reads as it did. -/
def journalTwiceSpec : ChangeSpec := { name := "journalTwice", fn := fun _ => fun
  | [d1, d2, d3] => { results := [.lit (.bool true)], args := [d1, d2, d3] }
  | _ => none }
def journalTwiceRow : OpenClaim := { program := "ytnplbpmdehcknaa", sum := "c423a437d4d9a5f03dea08b510474004ecb361eac29ec003e30775184cba5a6d", func := "interleaf/interleaflaw05.JournalTwice", spec := "journalTwice", unfollowed := true, recurses := true, plainKeys := false, apart := false }
def JournalTwiceSaid : Prop := journalTwiceRow.holds Try.pinned (OpenSpec.ofChange journalTwiceSpec)

/-- ITS FALSE NEIGHBOUR: 'it returns false'. Refute it at one input. -/
def journalTwiceWrong : ChangeSpec := { name := "journalTwice", fn := fun _ => fun
  | [d1, d2, d3] => { results := [.lit (.bool false)], args := [d1, d2, d3] }
  | _ => none }
def JournalTwiceWrongFalsely : Prop := journalTwiceRow.holds Try.pinned (OpenSpec.ofChange journalTwiceWrong)

/-- 'interleaflaw05.JournalErrs': WHATEVER THE INPUT: true; the input reads as it did. -/
def journalErrsSpec : ChangeSpec := { name := "journalErrs", fn := fun _ => fun
  | [d1, d2, d3, d4] => { results := [.lit (.bool true)], args := [d1, d2, d3, d4] }
  | _ => none }
def journalErrsRow : OpenClaim := { program := "ytnplbpmdehcknaa", sum := "c423a437d4d9a5f03dea08b510474004ecb361eac29ec003e30775184cba5a6d", func := "interleaf/interleaflaw05.JournalErrs", spec := "journalErrs", unfollowed := true, recurses := true, plainKeys := false, apart := false }
def JournalErrsSaid : Prop := journalErrsRow.holds Try.pinned (OpenSpec.ofChange journalErrsSpec)

/-- ITS FALSE NEIGHBOUR: 'it returns false'. Refute it at one input. -/
def journalErrsWrong : ChangeSpec := { name := "journalErrs", fn := fun _ => fun
  | [d1, d2, d3, d4] => { results := [.lit (.bool false)], args := [d1, d2, d3, d4] }
  | _ => none }
def JournalErrsWrongFalsely : Prop := journalErrsRow.holds Try.pinned (OpenSpec.ofChange journalErrsWrong)

/-- 'interleaflaw05.JournalPlays': WHATEVER THE INPUT: true; the input reads as it did. -/
def journalPlaysSpec : ChangeSpec := { name := "journalPlays", fn := fun _ => fun
  | [d1, d2] => { results := [.lit (.bool true)], args := [d1, d2] }
  | _ => none }
def journalPlaysRow : OpenClaim := { program := "ytnplbpmdehcknaa", sum := "c423a437d4d9a5f03dea08b510474004ecb361eac29ec003e30775184cba5a6d", func := "interleaf/interleaflaw05.JournalPlays", spec := "journalPlays", unfollowed := true, recurses := true, plainKeys := false, apart := false }
def JournalPlaysSaid : Prop := journalPlaysRow.holds Try.pinned (OpenSpec.ofChange journalPlaysSpec)

/-- ITS FALSE NEIGHBOUR: 'it returns false'. Refute it at one input. -/
def journalPlaysWrong : ChangeSpec := { name := "journalPlays", fn := fun _ => fun
  | [d1, d2] => { results := [.lit (.bool false)], args := [d1, d2] }
  | _ => none }
def JournalPlaysWrongFalsely : Prop := journalPlaysRow.holds Try.pinned (OpenSpec.ofChange journalPlaysWrong)

/-- 'interleaflaw05.JournalStops': WHATEVER THE INPUT: true; the input reads as it did. -/
def journalStopsSpec : ChangeSpec := { name := "journalStops", fn := fun _ => fun
  | [d1, d2, d3] => { results := [.lit (.bool true)], args := [d1, d2, d3] }
  | _ => none }
def journalStopsRow : OpenClaim := { program := "ytnplbpmdehcknaa", sum := "c423a437d4d9a5f03dea08b510474004ecb361eac29ec003e30775184cba5a6d", func := "interleaf/interleaflaw05.JournalStops", spec := "journalStops", unfollowed := true, recurses := true, plainKeys := false, apart := false }
def JournalStopsSaid : Prop := journalStopsRow.holds Try.pinned (OpenSpec.ofChange journalStopsSpec)

/-- ITS FALSE NEIGHBOUR: 'it returns false'. Refute it at one input. -/
def journalStopsWrong : ChangeSpec := { name := "journalStops", fn := fun _ => fun
  | [d1, d2, d3] => { results := [.lit (.bool false)], args := [d1, d2, d3] }
  | _ => none }
def JournalStopsWrongFalsely : Prop := journalStopsRow.holds Try.pinned (OpenSpec.ofChange journalStopsWrong)

/- THE SECOND FORM. 'bulk': how many values and letters a reading holds, each counted each time it is reached (what is shared counts as often as it is met; a slice's spare places count too). A statement '..UptoSaid' is the law's where the arguments, and the package variables that the reading takes, are together of bulk at most 1048576: NARROWER than '..Said'. Prove '..Said' where nothing that the law and all that it calls make is longer than what came in: it says more and counts as full. Else prove '..UptoSaid'. A law counts once. -/
mutual
def uptoBulk {H : Type} : DataW H → Nat
  | .lit (.string bytes) => bytes.length + 1
  | .lit _ => 1
  | .nil => 1
  | .ptr d => uptoBulk d + 1
  | .slice elems spare => uptoBulkAll elems + uptoBulkAll spare + 1
  | .agg parts => uptoBulkAll parts + 1
  | .iface _ d => uptoBulk d + 1
  | .map entries => uptoBulkEntries entries + 1
  | .held _ => 1
def uptoBulkAll {H : Type} : List (DataW H) → Nat
  | [] => 0
  | d :: r => uptoBulk d + uptoBulkAll r
def uptoBulkEntries {H : Type} : List (Lit × DataW H) → Nat
  | [] => 0
  | x :: r => uptoBulkEntry x + uptoBulkEntries r
def uptoBulkEntry {H : Type} : Lit × DataW H → Nat
  | (.string bytes, d) => bytes.length + uptoBulk d + 1
  | (_, d) => uptoBulk d + 1
 end
def uptoSmall : (H : Type) → List (DataW H) → Bool := fun _ ds => decide (uptoBulkAll ds ≤ 1048576)
def OpenSpec.upto (s : _root_.Go.ChangeSpec) : _root_.Go.OpenSpec := { _root_.Go.OpenSpec.ofChange s with cond := some uptoSmall }

/-- 'interleaflaw18.GraphAll', WHERE WHAT IT READS IS OF BULK AT MOST 1048576: true; the input reads as it did. -/
def graphAllUptoRow : OpenClaim := { program := "ytnplbpmdehcknaa", sum := "c423a437d4d9a5f03dea08b510474004ecb361eac29ec003e30775184cba5a6d", func := "interleaf/interleaflaw18.GraphAll", spec := "graphAll", unfollowed := true, recurses := true, plainKeys := false, apart := false, narrowed := true }
def GraphAllUptoSaid : Prop := graphAllUptoRow.holds Try.pinned (OpenSpec.upto graphAllSpec)

/-- 'interleaflaw18.GraphBases', WHERE WHAT IT READS IS OF BULK AT MOST 1048576: true; the input reads as it did. -/
def graphBasesUptoRow : OpenClaim := { program := "ytnplbpmdehcknaa", sum := "c423a437d4d9a5f03dea08b510474004ecb361eac29ec003e30775184cba5a6d", func := "interleaf/interleaflaw18.GraphBases", spec := "graphBases", unfollowed := true, recurses := true, plainKeys := false, apart := false, narrowed := true }
def GraphBasesUptoSaid : Prop := graphBasesUptoRow.holds Try.pinned (OpenSpec.upto graphBasesSpec)

/-- 'interleaflaw18.GraphLost', WHERE WHAT IT READS IS OF BULK AT MOST 1048576: true; the input reads as it did. -/
def graphLostUptoRow : OpenClaim := { program := "ytnplbpmdehcknaa", sum := "c423a437d4d9a5f03dea08b510474004ecb361eac29ec003e30775184cba5a6d", func := "interleaf/interleaflaw18.GraphLost", spec := "graphLost", unfollowed := true, recurses := true, plainKeys := false, apart := false, narrowed := true }
def GraphLostUptoSaid : Prop := graphLostUptoRow.holds Try.pinned (OpenSpec.upto graphLostSpec)

/-- 'interleaflaw18.GraphRow', WHERE WHAT IT READS IS OF BULK AT MOST 1048576: true; the input reads as it did. -/
def graphRowUptoRow : OpenClaim := { program := "ytnplbpmdehcknaa", sum := "c423a437d4d9a5f03dea08b510474004ecb361eac29ec003e30775184cba5a6d", func := "interleaf/interleaflaw18.GraphRow", spec := "graphRow", unfollowed := true, recurses := true, plainKeys := false, apart := false, narrowed := true }
def GraphRowUptoSaid : Prop := graphRowUptoRow.holds Try.pinned (OpenSpec.upto graphRowSpec)

/-- 'interleaflaw18.GraphCross', WHERE WHAT IT READS IS OF BULK AT MOST 1048576: true; the input reads as it did. -/
def graphCrossUptoRow : OpenClaim := { program := "ytnplbpmdehcknaa", sum := "c423a437d4d9a5f03dea08b510474004ecb361eac29ec003e30775184cba5a6d", func := "interleaf/interleaflaw18.GraphCross", spec := "graphCross", unfollowed := true, recurses := true, plainKeys := false, apart := false, narrowed := true }
def GraphCrossUptoSaid : Prop := graphCrossUptoRow.holds Try.pinned (OpenSpec.upto graphCrossSpec)

/-- 'interleaflaw05.JournalMany', WHERE WHAT IT READS IS OF BULK AT MOST 1048576: true; the input reads as it did. -/
def journalManyUptoRow : OpenClaim := { program := "ytnplbpmdehcknaa", sum := "c423a437d4d9a5f03dea08b510474004ecb361eac29ec003e30775184cba5a6d", func := "interleaf/interleaflaw05.JournalMany", spec := "journalMany", unfollowed := true, recurses := true, plainKeys := false, apart := false, narrowed := true }
def JournalManyUptoSaid : Prop := journalManyUptoRow.holds Try.pinned (OpenSpec.upto journalManySpec)

/-- 'interleaflaw05.JournalTwice', WHERE WHAT IT READS IS OF BULK AT MOST 1048576: true; the input reads as it did. -/
def journalTwiceUptoRow : OpenClaim := { program := "ytnplbpmdehcknaa", sum := "c423a437d4d9a5f03dea08b510474004ecb361eac29ec003e30775184cba5a6d", func := "interleaf/interleaflaw05.JournalTwice", spec := "journalTwice", unfollowed := true, recurses := true, plainKeys := false, apart := false, narrowed := true }
def JournalTwiceUptoSaid : Prop := journalTwiceUptoRow.holds Try.pinned (OpenSpec.upto journalTwiceSpec)

/-- 'interleaflaw05.JournalErrs', WHERE WHAT IT READS IS OF BULK AT MOST 1048576: true; the input reads as it did. -/
def journalErrsUptoRow : OpenClaim := { program := "ytnplbpmdehcknaa", sum := "c423a437d4d9a5f03dea08b510474004ecb361eac29ec003e30775184cba5a6d", func := "interleaf/interleaflaw05.JournalErrs", spec := "journalErrs", unfollowed := true, recurses := true, plainKeys := false, apart := false, narrowed := true }
def JournalErrsUptoSaid : Prop := journalErrsUptoRow.holds Try.pinned (OpenSpec.upto journalErrsSpec)

/-- 'interleaflaw05.JournalPlays', WHERE WHAT IT READS IS OF BULK AT MOST 1048576: true; the input reads as it did. -/
def journalPlaysUptoRow : OpenClaim := { program := "ytnplbpmdehcknaa", sum := "c423a437d4d9a5f03dea08b510474004ecb361eac29ec003e30775184cba5a6d", func := "interleaf/interleaflaw05.JournalPlays", spec := "journalPlays", unfollowed := true, recurses := true, plainKeys := false, apart := false, narrowed := true }
def JournalPlaysUptoSaid : Prop := journalPlaysUptoRow.holds Try.pinned (OpenSpec.upto journalPlaysSpec)

/-- 'interleaflaw05.JournalStops', WHERE WHAT IT READS IS OF BULK AT MOST 1048576: true; the input reads as it did. -/
def journalStopsUptoRow : OpenClaim := { program := "ytnplbpmdehcknaa", sum := "c423a437d4d9a5f03dea08b510474004ecb361eac29ec003e30775184cba5a6d", func := "interleaf/interleaflaw05.JournalStops", spec := "journalStops", unfollowed := true, recurses := true, plainKeys := false, apart := false, narrowed := true }
def JournalStopsUptoSaid : Prop := journalStopsUptoRow.holds Try.pinned (OpenSpec.upto journalStopsSpec)

end Rows
end Go.Proofs.Ytnplbpmdehcknaa
