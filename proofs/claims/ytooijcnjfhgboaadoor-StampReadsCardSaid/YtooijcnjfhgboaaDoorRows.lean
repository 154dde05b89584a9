/-
  NARROWER THAN 'FOR EVERY INPUT', by the rows' own cells (each row's printed sentence says how): StampOf: laid · StampSizes: laid · StampLess: laid · StampRows: laid · StampTexts: laid · StampReads: laid.
  DERIVED. THE GIVEN ROWS OF THIS SEAT. 6 by the template 'for every input the law returns true; each argument reads behind the call as it read before'; 0 by the template 'total and deterministic' (their statements: YtooijcnjfhgboaaDoorTotals.lean).
  GIVEN WITH THE SEED: the statements are not yours to turn. If you find one false, say at which input.
  Laid BY PROGRAM, IN A SANDBOX (cutbox-rows.mjs): the forced cells as the released guide's own fill.sh prints them over the translation bc42d3d13ce408ec… (all of the seat's roots in one cut). By AI agents, Wed Nov 11 2026. No macro, syntax, notation, axiom, sorry.
-/
import Derived.Test.YtooijcnjfhgboaaDoorChecked
import GoSem.Claim
import GoSem.ClaimJoined
import GoSem.ClaimMapViews
import Derived.JoinedTies
import Derived.KernelRfl
namespace Go.Proofs.YtooijcnjfhgboaaDoor
/- THE CELL 'sum', in the pinned program and in every row, IS THE sha256 OF THE DUMP (.gsa) THAT YtooijcnjfhgboaaDoorProg.lean LOADS. Nothing in Lean hashes anything: it is a label: what it is worth is what the hold of that sum in a sandbox is worth. -/
noncomputable def Tryd.pinned : Pinned := { name := "ytooijcnjfhgboaadoor", sum := "bc42d3d13ce408eca0197d518b7a97f086a372d49e9d914dd0b5473e691436d1", checked := Tryd.checked }
namespace Rows
def none {H : Type} : Left H := { results := [], args := [] }

/- WHAT THE LISTED PACKAGE-LEVEL VARIABLES READ AS WHEN THE CALL BEGINS. Each datum BY PROGRAM (the guide's laid-datum.mjs) off the statement by which the dump's own 'gosem.cut.vars' lays the variable. In a bare row this is a premise. The card (YtooijcnjfhgboaaDoorCards.lean) ties it to the program's text. -/
def laid_interleaf_stamp_parts {H : Type} : DataW H := .agg [.lit (.int .u32 1116352408), .lit (.int .u32 1899447441), .lit (.int .u32 3049323471), .lit (.int .u32 3921009573), .lit (.int .u32 961987163), .lit (.int .u32 1508970993), .lit (.int .u32 2453635748), .lit (.int .u32 2870763221), .lit (.int .u32 3624381080), .lit (.int .u32 310598401), .lit (.int .u32 607225278), .lit (.int .u32 1426881987), .lit (.int .u32 1925078388), .lit (.int .u32 2162078206), .lit (.int .u32 2614888103), .lit (.int .u32 3248222580), .lit (.int .u32 3835390401), .lit (.int .u32 4022224774), .lit (.int .u32 264347078), .lit (.int .u32 604807628), .lit (.int .u32 770255983), .lit (.int .u32 1249150122), .lit (.int .u32 1555081692), .lit (.int .u32 1996064986), .lit (.int .u32 2554220882), .lit (.int .u32 2821834349), .lit (.int .u32 2952996808), .lit (.int .u32 3210313671), .lit (.int .u32 3336571891), .lit (.int .u32 3584528711), .lit (.int .u32 113926993), .lit (.int .u32 338241895), .lit (.int .u32 666307205), .lit (.int .u32 773529912), .lit (.int .u32 1294757372), .lit (.int .u32 1396182291), .lit (.int .u32 1695183700), .lit (.int .u32 1986661051), .lit (.int .u32 2177026350), .lit (.int .u32 2456956037), .lit (.int .u32 2730485921), .lit (.int .u32 2820302411), .lit (.int .u32 3259730800), .lit (.int .u32 3345764771), .lit (.int .u32 3516065817), .lit (.int .u32 3600352804), .lit (.int .u32 4094571909), .lit (.int .u32 275423344), .lit (.int .u32 430227734), .lit (.int .u32 506948616), .lit (.int .u32 659060556), .lit (.int .u32 883997877), .lit (.int .u32 958139571), .lit (.int .u32 1322822218), .lit (.int .u32 1537002063), .lit (.int .u32 1747873779), .lit (.int .u32 1955562222), .lit (.int .u32 2024104815), .lit (.int .u32 2227730452), .lit (.int .u32 2361852424), .lit (.int .u32 2428436474), .lit (.int .u32 2756734187), .lit (.int .u32 3204031479), .lit (.int .u32 3329325298)]
def laid_interleaf_stamp_first {H : Type} : DataW H := .agg [.lit (.int .u32 1779033703), .lit (.int .u32 3144134277), .lit (.int .u32 1013904242), .lit (.int .u32 2773480762), .lit (.int .u32 1359893119), .lit (.int .u32 2600822924), .lit (.int .u32 528734635), .lit (.int .u32 1541459225)]

/-- 'interleaflaw02.StampOf': WHATEVER THE INPUT: true; the input reads as it did. -/
def stampOfSpec : ChangeSpec := { name := "stampOf", fn := fun _ => fun
  | [d] => { results := [.lit (.bool true)], args := [d] }
  | _ => none }
def stampOfRow : OpenClaim := { program := "ytooijcnjfhgboaadoor", sum := "bc42d3d13ce408eca0197d518b7a97f086a372d49e9d914dd0b5473e691436d1", func := "interleaf/interleaflaw02.StampOf", spec := "stampOf", named := ["interleaf/stamp.first", "interleaf/stamp.parts"], apart := false, laid := [("interleaf/stamp.parts", laid_interleaf_stamp_parts), ("interleaf/stamp.first", laid_interleaf_stamp_first)] }
def StampOfSaid : Prop := stampOfRow.holds Tryd.pinned (OpenSpec.ofChange stampOfSpec)

/-- ITS FALSE NEIGHBOUR: 'it returns false'. Refute it at one input. -/
def stampOfWrong : ChangeSpec := { name := "stampOf", fn := fun _ => fun
  | [d] => { results := [.lit (.bool false)], args := [d] }
  | _ => none }
def StampOfWrongFalsely : Prop := stampOfRow.holds Tryd.pinned (OpenSpec.ofChange stampOfWrong)

/-- 'interleaflaw02.StampSizes': WHATEVER THE INPUT: true; the input reads as it did. -/
def stampSizesSpec : ChangeSpec := { name := "stampSizes", fn := fun _ => fun
  | [d] => { results := [.lit (.bool true)], args := [d] }
  | _ => none }
def stampSizesRow : OpenClaim := { program := "ytooijcnjfhgboaadoor", sum := "bc42d3d13ce408eca0197d518b7a97f086a372d49e9d914dd0b5473e691436d1", func := "interleaf/interleaflaw02.StampSizes", spec := "stampSizes", named := ["interleaf/stamp.first", "interleaf/stamp.parts"], apart := false, laid := [("interleaf/stamp.parts", laid_interleaf_stamp_parts), ("interleaf/stamp.first", laid_interleaf_stamp_first)] }
def StampSizesSaid : Prop := stampSizesRow.holds Tryd.pinned (OpenSpec.ofChange stampSizesSpec)

/-- ITS FALSE NEIGHBOUR: 'it returns false'. Refute it at one input. -/
def stampSizesWrong : ChangeSpec := { name := "stampSizes", fn := fun _ => fun
  | [d] => { results := [.lit (.bool false)], args := [d] }
  | _ => none }
def StampSizesWrongFalsely : Prop := stampSizesRow.holds Tryd.pinned (OpenSpec.ofChange stampSizesWrong)

/-- 'interleaflaw02.StampLess': WHATEVER THE INPUT: true; the input reads as it did. -/
def stampLessSpec : ChangeSpec := { name := "stampLess", fn := fun _ => fun
  | [d1, d2, d3, d4] => { results := [.lit (.bool true)], args := [d1, d2, d3, d4] }
  | _ => none }
def stampLessRow : OpenClaim := { program := "ytooijcnjfhgboaadoor", sum := "bc42d3d13ce408eca0197d518b7a97f086a372d49e9d914dd0b5473e691436d1", func := "interleaf/interleaflaw02.StampLess", spec := "stampLess", named := ["interleaf/stamp.first", "interleaf/stamp.parts"], apart := false, laid := [("interleaf/stamp.parts", laid_interleaf_stamp_parts), ("interleaf/stamp.first", laid_interleaf_stamp_first)] }
def StampLessSaid : Prop := stampLessRow.holds Tryd.pinned (OpenSpec.ofChange stampLessSpec)

/-- ITS FALSE NEIGHBOUR: 'it returns false'. Refute it at one input. -/
def stampLessWrong : ChangeSpec := { name := "stampLess", fn := fun _ => fun
  | [d1, d2, d3, d4] => { results := [.lit (.bool false)], args := [d1, d2, d3, d4] }
  | _ => none }
def StampLessWrongFalsely : Prop := stampLessRow.holds Tryd.pinned (OpenSpec.ofChange stampLessWrong)

/-- 'interleaflaw02.StampRows': WHATEVER THE INPUT: true; the input reads as it did. -/
def stampRowsSpec : ChangeSpec := { name := "stampRows", fn := fun _ => fun
  | [d1, d2, d3, d4] => { results := [.lit (.bool true)], args := [d1, d2, d3, d4] }
  | _ => none }
def stampRowsRow : OpenClaim := { program := "ytooijcnjfhgboaadoor", sum := "bc42d3d13ce408eca0197d518b7a97f086a372d49e9d914dd0b5473e691436d1", func := "interleaf/interleaflaw02.StampRows", spec := "stampRows", named := ["interleaf/stamp.first", "interleaf/stamp.parts"], apart := false, laid := [("interleaf/stamp.parts", laid_interleaf_stamp_parts), ("interleaf/stamp.first", laid_interleaf_stamp_first)] }
def StampRowsSaid : Prop := stampRowsRow.holds Tryd.pinned (OpenSpec.ofChange stampRowsSpec)

/-- ITS FALSE NEIGHBOUR: 'it returns false'. Refute it at one input. -/
def stampRowsWrong : ChangeSpec := { name := "stampRows", fn := fun _ => fun
  | [d1, d2, d3, d4] => { results := [.lit (.bool false)], args := [d1, d2, d3, d4] }
  | _ => none }
def StampRowsWrongFalsely : Prop := stampRowsRow.holds Tryd.pinned (OpenSpec.ofChange stampRowsWrong)

/-- 'interleaflaw02.StampTexts': WHATEVER THE INPUT: true; the input reads as it did. -/
def stampTextsSpec : ChangeSpec := { name := "stampTexts", fn := fun _ => fun
  | [d] => { results := [.lit (.bool true)], args := [d] }
  | _ => none }
def stampTextsRow : OpenClaim := { program := "ytooijcnjfhgboaadoor", sum := "bc42d3d13ce408eca0197d518b7a97f086a372d49e9d914dd0b5473e691436d1", func := "interleaf/interleaflaw02.StampTexts", spec := "stampTexts", named := ["interleaf/stamp.first", "interleaf/stamp.parts"], apart := false, laid := [("interleaf/stamp.parts", laid_interleaf_stamp_parts), ("interleaf/stamp.first", laid_interleaf_stamp_first)] }
def StampTextsSaid : Prop := stampTextsRow.holds Tryd.pinned (OpenSpec.ofChange stampTextsSpec)

/-- ITS FALSE NEIGHBOUR: 'it returns false'. Refute it at one input. -/
def stampTextsWrong : ChangeSpec := { name := "stampTexts", fn := fun _ => fun
  | [d] => { results := [.lit (.bool false)], args := [d] }
  | _ => none }
def StampTextsWrongFalsely : Prop := stampTextsRow.holds Tryd.pinned (OpenSpec.ofChange stampTextsWrong)

/-- 'interleaflaw02.StampReads': WHATEVER THE INPUT: true; the input reads as it did. -/
def stampReadsSpec : ChangeSpec := { name := "stampReads", fn := fun _ => fun
  | [d1, d2, d3, d4] => { results := [.lit (.bool true)], args := [d1, d2, d3, d4] }
  | _ => none }
def stampReadsRow : OpenClaim := { program := "ytooijcnjfhgboaadoor", sum := "bc42d3d13ce408eca0197d518b7a97f086a372d49e9d914dd0b5473e691436d1", func := "interleaf/interleaflaw02.StampReads", spec := "stampReads", named := ["interleaf/stamp.first", "interleaf/stamp.parts"], apart := false, laid := [("interleaf/stamp.parts", laid_interleaf_stamp_parts), ("interleaf/stamp.first", laid_interleaf_stamp_first)] }
def StampReadsSaid : Prop := stampReadsRow.holds Tryd.pinned (OpenSpec.ofChange stampReadsSpec)

/-- ITS FALSE NEIGHBOUR: 'it returns false'. Refute it at one input. -/
def stampReadsWrong : ChangeSpec := { name := "stampReads", fn := fun _ => fun
  | [d1, d2, d3, d4] => { results := [.lit (.bool false)], args := [d1, d2, d3, d4] }
  | _ => none }
def StampReadsWrongFalsely : Prop := stampReadsRow.holds Tryd.pinned (OpenSpec.ofChange stampReadsWrong)

/- THE SECOND FORM. 'bulk': how many values and letters a reading holds, each counted each time it is reached (what is shared counts as often as it is met; a slice's spare places count too). A statement '..UptoSaid' is the law's where the arguments, and the package variables that the reading takes, are together of bulk at most 1048576: NARROWER than '..Said'. Prove '..Said' where nothing that the law and all that it calls make is longer than what came in: it says more and counts as full. Else prove '..UptoSaid'. A law counts once. -/
mutual
def uptoBulk {H : Type} : DataW H → Nat
  | .lit (.string bytes) => bytes.length + 1
  | .lit _ => 1
  | .nil => 1
  | .ptr d => uptoBulk d + 1
  | .slice elems spare => uptoBulkAll elems + uptoBulkAll spare + 1
  | .agg parts => uptoBulkAll parts + 1
  | .iface _ d => uptoBulk d + 1
  | .map entries => uptoBulkEntries entries + 1
  | .held _ => 1
def uptoBulkAll {H : Type} : List (DataW H) → Nat
  | [] => 0
  | d :: r => uptoBulk d + uptoBulkAll r
def uptoBulkEntries {H : Type} : List (Lit × DataW H) → Nat
  | [] => 0
  | x :: r => uptoBulkEntry x + uptoBulkEntries r
def uptoBulkEntry {H : Type} : Lit × DataW H → Nat
  | (.string bytes, d) => bytes.length + uptoBulk d + 1
  | (_, d) => uptoBulk d + 1
 end
def uptoSmall : (H : Type) → List (DataW H) → Bool := fun _ ds => decide (uptoBulkAll ds ≤ 1048576)
def OpenSpec.upto (s : _root_.Go.ChangeSpec) : _root_.Go.OpenSpec := { _root_.Go.OpenSpec.ofChange s with cond := some uptoSmall }

/-- 'interleaflaw02.StampOf', WHERE WHAT IT READS IS OF BULK AT MOST 1048576: true; the input reads as it did. -/
def stampOfUptoRow : OpenClaim := { program := "ytooijcnjfhgboaadoor", sum := "bc42d3d13ce408eca0197d518b7a97f086a372d49e9d914dd0b5473e691436d1", func := "interleaf/interleaflaw02.StampOf", spec := "stampOf", named := ["interleaf/stamp.first", "interleaf/stamp.parts"], apart := false, laid := [("interleaf/stamp.parts", laid_interleaf_stamp_parts), ("interleaf/stamp.first", laid_interleaf_stamp_first)], narrowed := true }
def StampOfUptoSaid : Prop := stampOfUptoRow.holds Tryd.pinned (OpenSpec.upto stampOfSpec)

/-- 'interleaflaw02.StampSizes', WHERE WHAT IT READS IS OF BULK AT MOST 1048576: true; the input reads as it did. -/
def stampSizesUptoRow : OpenClaim := { program := "ytooijcnjfhgboaadoor", sum := "bc42d3d13ce408eca0197d518b7a97f086a372d49e9d914dd0b5473e691436d1", func := "interleaf/interleaflaw02.StampSizes", spec := "stampSizes", named := ["interleaf/stamp.first", "interleaf/stamp.parts"], apart := false, laid := [("interleaf/stamp.parts", laid_interleaf_stamp_parts), ("interleaf/stamp.first", laid_interleaf_stamp_first)], narrowed := true }
def StampSizesUptoSaid : Prop := stampSizesUptoRow.holds Tryd.pinned (OpenSpec.upto stampSizesSpec)

/-- 'interleaflaw02.StampLess', WHERE WHAT IT READS IS OF BULK AT MOST 1048576: true; the input reads as it did. -/
def stampLessUptoRow : OpenClaim := { program := "ytooijcnjfhgboaadoor", sum := "bc42d3d13ce408eca0197d518b7a97f086a372d49e9d914dd0b5473e691436d1", func := "interleaf/interleaflaw02.StampLess", spec := "stampLess", named := ["interleaf/stamp.first", "interleaf/stamp.parts"], apart := false, laid := [("interleaf/stamp.parts", laid_interleaf_stamp_parts), ("interleaf/stamp.first", laid_interleaf_stamp_first)], narrowed := true }
def StampLessUptoSaid : Prop := stampLessUptoRow.holds Tryd.pinned (OpenSpec.upto stampLessSpec)

/-- 'interleaflaw02.StampRows', WHERE WHAT IT READS IS OF BULK AT MOST 1048576: true; the input reads as it did. -/
def stampRowsUptoRow : OpenClaim := { program := "ytooijcnjfhgboaadoor", sum := "bc42d3d13ce408eca0197d518b7a97f086a372d49e9d914dd0b5473e691436d1", func := "interleaf/interleaflaw02.StampRows", spec := "stampRows", named := ["interleaf/stamp.first", "interleaf/stamp.parts"], apart := false, laid := [("interleaf/stamp.parts", laid_interleaf_stamp_parts), ("interleaf/stamp.first", laid_interleaf_stamp_first)], narrowed := true }
def StampRowsUptoSaid : Prop := stampRowsUptoRow.holds Tryd.pinned (OpenSpec.upto stampRowsSpec)

/-- 'interleaflaw02.StampTexts', WHERE WHAT IT READS IS OF BULK AT MOST 1048576: true; the input reads as it did. -/
def stampTextsUptoRow : OpenClaim := { program := "ytooijcnjfhgboaadoor", sum := "bc42d3d13ce408eca0197d518b7a97f086a372d49e9d914dd0b5473e691436d1", func := "interleaf/interleaflaw02.StampTexts", spec := "stampTexts", named := ["interleaf/stamp.first", "interleaf/stamp.parts"], apart := false, laid := [("interleaf/stamp.parts", laid_interleaf_stamp_parts), ("interleaf/stamp.first", laid_interleaf_stamp_first)], narrowed := true }
def StampTextsUptoSaid : Prop := stampTextsUptoRow.holds Tryd.pinned (OpenSpec.upto stampTextsSpec)

/-- 'interleaflaw02.StampReads', WHERE WHAT IT READS IS OF BULK AT MOST 1048576: true; the input reads as it did. -/
def stampReadsUptoRow : OpenClaim := { program := "ytooijcnjfhgboaadoor", sum := "bc42d3d13ce408eca0197d518b7a97f086a372d49e9d914dd0b5473e691436d1", func := "interleaf/interleaflaw02.StampReads", spec := "stampReads", named := ["interleaf/stamp.first", "interleaf/stamp.parts"], apart := false, laid := [("interleaf/stamp.parts", laid_interleaf_stamp_parts), ("interleaf/stamp.first", laid_interleaf_stamp_first)], narrowed := true }
def StampReadsUptoSaid : Prop := stampReadsUptoRow.holds Tryd.pinned (OpenSpec.upto stampReadsSpec)

end Rows
end Go.Proofs.YtooijcnjfhgboaaDoor
