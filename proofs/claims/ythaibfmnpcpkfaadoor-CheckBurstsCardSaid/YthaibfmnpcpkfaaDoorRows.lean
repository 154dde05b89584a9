/-
  NARROWER THAN 'FOR EVERY INPUT', by the rows' own cells (each row's printed sentence says how): CheckOf: laid · CheckLines: laid · CheckNumbers: laid · CheckSeals: laid · CheckOpens: laid · CheckBursts: laid.
  DERIVED. THE GIVEN ROWS OF THIS SEAT. 6 by the template 'for every input the law returns true; each argument reads behind the call as it read before'; 0 by the template 'total and deterministic' (their statements: YthaibfmnpcpkfaaDoorTotals.lean).
  GIVEN WITH THE SEED: the statements are not yours to turn. If you find one false, say at which input.
  Laid BY PROGRAM, IN A SANDBOX (cutbox-rows.mjs): the forced cells as the released guide's own fill.sh prints them over the translation 45a9cea2b05c09cb… (all of the seat's roots in one cut). By AI agents, Wed Nov 11 2026. No macro, syntax, notation, axiom, sorry.
-/
import Derived.Test.YthaibfmnpcpkfaaDoorChecked
import GoSem.Claim
import GoSem.ClaimJoined
import GoSem.ClaimMapViews
import Derived.JoinedTies
import Derived.KernelRfl
namespace Go.Proofs.YthaibfmnpcpkfaaDoor
/- THE CELL 'sum', in the pinned program and in every row, IS THE sha256 OF THE DUMP (.gsa) THAT YthaibfmnpcpkfaaDoorProg.lean LOADS. Nothing in Lean hashes anything: it is a label: what it is worth is what the hold of that sum in a sandbox is worth. -/
noncomputable def Tryd.pinned : Pinned := { name := "ythaibfmnpcpkfaadoor", sum := "45a9cea2b05c09cb5f4d3523152b6e2473eaeeddcfa5f8322bddda754bc0f77d", checked := Tryd.checked }
namespace Rows
def none {H : Type} : Left H := { results := [], args := [] }

/- WHAT THE LISTED PACKAGE-LEVEL VARIABLES READ AS WHEN THE CALL BEGINS. Each datum BY PROGRAM (the guide's laid-datum.mjs) off the statement by which the dump's own 'gosem.cut.vars' lays the variable. In a bare row this is a premise. The card (YthaibfmnpcpkfaaDoorCards.lean) ties it to the program's text. -/
def laid_interleaf_check_lines {H : Type} : DataW H := .agg [.lit (.int .u32 0), .lit (.int .u32 274646895), .lit (.int .u32 549293790), .lit (.int .u32 820201905), .lit (.int .u32 1098587580), .lit (.int .u32 1361435347), .lit (.int .u32 1640403810), .lit (.int .u32 1905808397), .lit (.int .u32 2197175160), .lit (.int .u32 2460548119), .lit (.int .u32 2722870694), .lit (.int .u32 2987750089), .lit (.int .u32 3280807620), .lit (.int .u32 3553878443), .lit (.int .u32 3811616794), .lit (.int .u32 4084100981)]

/-- 'interleaflaw03.CheckOf': WHATEVER THE INPUT: true; the input reads as it did. -/
def checkOfSpec : ChangeSpec := { name := "checkOf", fn := fun _ => fun
  | [d] => { results := [.lit (.bool true)], args := [d] }
  | _ => none }
def checkOfRow : OpenClaim := { program := "ythaibfmnpcpkfaadoor", sum := "45a9cea2b05c09cb5f4d3523152b6e2473eaeeddcfa5f8322bddda754bc0f77d", func := "interleaf/interleaflaw03.CheckOf", spec := "checkOf", named := ["interleaf/check.lines"], apart := false, laid := [("interleaf/check.lines", laid_interleaf_check_lines)] }
def CheckOfSaid : Prop := checkOfRow.holds Tryd.pinned (OpenSpec.ofChange checkOfSpec)

/-- ITS FALSE NEIGHBOUR: 'it returns false'. Refute it at one input. -/
def checkOfWrong : ChangeSpec := { name := "checkOf", fn := fun _ => fun
  | [d] => { results := [.lit (.bool false)], args := [d] }
  | _ => none }
def CheckOfWrongFalsely : Prop := checkOfRow.holds Tryd.pinned (OpenSpec.ofChange checkOfWrong)

/-- 'interleaflaw03.CheckLines': WHATEVER THE INPUT: true; the input reads as it did. -/
def checkLinesSpec : ChangeSpec := { name := "checkLines", fn := fun _ => fun
  | [d1, d2, d3] => { results := [.lit (.bool true)], args := [d1, d2, d3] }
  | _ => none }
def checkLinesRow : OpenClaim := { program := "ythaibfmnpcpkfaadoor", sum := "45a9cea2b05c09cb5f4d3523152b6e2473eaeeddcfa5f8322bddda754bc0f77d", func := "interleaf/interleaflaw03.CheckLines", spec := "checkLines", named := ["interleaf/check.lines"], apart := false, laid := [("interleaf/check.lines", laid_interleaf_check_lines)] }
def CheckLinesSaid : Prop := checkLinesRow.holds Tryd.pinned (OpenSpec.ofChange checkLinesSpec)

/-- ITS FALSE NEIGHBOUR: 'it returns false'. Refute it at one input. -/
def checkLinesWrong : ChangeSpec := { name := "checkLines", fn := fun _ => fun
  | [d1, d2, d3] => { results := [.lit (.bool false)], args := [d1, d2, d3] }
  | _ => none }
def CheckLinesWrongFalsely : Prop := checkLinesRow.holds Tryd.pinned (OpenSpec.ofChange checkLinesWrong)

/-- 'interleaflaw03.CheckNumbers': WHATEVER THE INPUT: true; the input reads as it did. -/
def checkNumbersSpec : ChangeSpec := { name := "checkNumbers", fn := fun _ => fun
  | [d1, d2] => { results := [.lit (.bool true)], args := [d1, d2] }
  | _ => none }
def checkNumbersRow : OpenClaim := { program := "ythaibfmnpcpkfaadoor", sum := "45a9cea2b05c09cb5f4d3523152b6e2473eaeeddcfa5f8322bddda754bc0f77d", func := "interleaf/interleaflaw03.CheckNumbers", spec := "checkNumbers", named := ["interleaf/check.lines"], apart := false, laid := [("interleaf/check.lines", laid_interleaf_check_lines)] }
def CheckNumbersSaid : Prop := checkNumbersRow.holds Tryd.pinned (OpenSpec.ofChange checkNumbersSpec)

/-- ITS FALSE NEIGHBOUR: 'it returns false'. Refute it at one input. -/
def checkNumbersWrong : ChangeSpec := { name := "checkNumbers", fn := fun _ => fun
  | [d1, d2] => { results := [.lit (.bool false)], args := [d1, d2] }
  | _ => none }
def CheckNumbersWrongFalsely : Prop := checkNumbersRow.holds Tryd.pinned (OpenSpec.ofChange checkNumbersWrong)

/-- 'interleaflaw03.CheckSeals': WHATEVER THE INPUT: true; the input reads as it did. -/
def checkSealsSpec : ChangeSpec := { name := "checkSeals", fn := fun _ => fun
  | [d] => { results := [.lit (.bool true)], args := [d] }
  | _ => none }
def checkSealsRow : OpenClaim := { program := "ythaibfmnpcpkfaadoor", sum := "45a9cea2b05c09cb5f4d3523152b6e2473eaeeddcfa5f8322bddda754bc0f77d", func := "interleaf/interleaflaw03.CheckSeals", spec := "checkSeals", named := ["interleaf/check.lines"], apart := false, laid := [("interleaf/check.lines", laid_interleaf_check_lines)] }
def CheckSealsSaid : Prop := checkSealsRow.holds Tryd.pinned (OpenSpec.ofChange checkSealsSpec)

/-- ITS FALSE NEIGHBOUR: 'it returns false'. Refute it at one input. -/
def checkSealsWrong : ChangeSpec := { name := "checkSeals", fn := fun _ => fun
  | [d] => { results := [.lit (.bool false)], args := [d] }
  | _ => none }
def CheckSealsWrongFalsely : Prop := checkSealsRow.holds Tryd.pinned (OpenSpec.ofChange checkSealsWrong)

/-- 'interleaflaw03.CheckOpens': WHATEVER THE INPUT: true; the input reads as it did. -/
def checkOpensSpec : ChangeSpec := { name := "checkOpens", fn := fun _ => fun
  | [d1, d2, d3, d4] => { results := [.lit (.bool true)], args := [d1, d2, d3, d4] }
  | _ => none }
def checkOpensRow : OpenClaim := { program := "ythaibfmnpcpkfaadoor", sum := "45a9cea2b05c09cb5f4d3523152b6e2473eaeeddcfa5f8322bddda754bc0f77d", func := "interleaf/interleaflaw03.CheckOpens", spec := "checkOpens", named := ["interleaf/check.lines"], apart := false, laid := [("interleaf/check.lines", laid_interleaf_check_lines)] }
def CheckOpensSaid : Prop := checkOpensRow.holds Tryd.pinned (OpenSpec.ofChange checkOpensSpec)

/-- ITS FALSE NEIGHBOUR: 'it returns false'. Refute it at one input. -/
def checkOpensWrong : ChangeSpec := { name := "checkOpens", fn := fun _ => fun
  | [d1, d2, d3, d4] => { results := [.lit (.bool false)], args := [d1, d2, d3, d4] }
  | _ => none }
def CheckOpensWrongFalsely : Prop := checkOpensRow.holds Tryd.pinned (OpenSpec.ofChange checkOpensWrong)

/-- 'interleaflaw03.CheckBursts': WHATEVER THE INPUT: true; the input reads as it did. -/
def checkBurstsSpec : ChangeSpec := { name := "checkBursts", fn := fun _ => fun
  | [d1, d2, d3] => { results := [.lit (.bool true)], args := [d1, d2, d3] }
  | _ => none }
def checkBurstsRow : OpenClaim := { program := "ythaibfmnpcpkfaadoor", sum := "45a9cea2b05c09cb5f4d3523152b6e2473eaeeddcfa5f8322bddda754bc0f77d", func := "interleaf/interleaflaw03.CheckBursts", spec := "checkBursts", named := ["interleaf/check.lines"], apart := false, laid := [("interleaf/check.lines", laid_interleaf_check_lines)] }
def CheckBurstsSaid : Prop := checkBurstsRow.holds Tryd.pinned (OpenSpec.ofChange checkBurstsSpec)

/-- ITS FALSE NEIGHBOUR: 'it returns false'. Refute it at one input. -/
def checkBurstsWrong : ChangeSpec := { name := "checkBursts", fn := fun _ => fun
  | [d1, d2, d3] => { results := [.lit (.bool false)], args := [d1, d2, d3] }
  | _ => none }
def CheckBurstsWrongFalsely : Prop := checkBurstsRow.holds Tryd.pinned (OpenSpec.ofChange checkBurstsWrong)

/- THE SECOND FORM. 'bulk': how many values and letters a reading holds, each counted each time it is reached (what is shared counts as often as it is met; a slice's spare places count too). A statement '..UptoSaid' is the law's where the arguments, and the package variables that the reading takes, are together of bulk at most 1048576: NARROWER than '..Said'. Prove '..Said' where nothing that the law and all that it calls make is longer than what came in: it says more and counts as full. Else prove '..UptoSaid'. A law counts once. -/
mutual
def uptoBulk {H : Type} : DataW H → Nat
  | .lit (.string bytes) => bytes.length + 1
  | .lit _ => 1
  | .nil => 1
  | .ptr d => uptoBulk d + 1
  | .slice elems spare => uptoBulkAll elems + uptoBulkAll spare + 1
  | .agg parts => uptoBulkAll parts + 1
  | .iface _ d => uptoBulk d + 1
  | .map entries => uptoBulkEntries entries + 1
  | .held _ => 1
def uptoBulkAll {H : Type} : List (DataW H) → Nat
  | [] => 0
  | d :: r => uptoBulk d + uptoBulkAll r
def uptoBulkEntries {H : Type} : List (Lit × DataW H) → Nat
  | [] => 0
  | x :: r => uptoBulkEntry x + uptoBulkEntries r
def uptoBulkEntry {H : Type} : Lit × DataW H → Nat
  | (.string bytes, d) => bytes.length + uptoBulk d + 1
  | (_, d) => uptoBulk d + 1
 end
def uptoSmall : (H : Type) → List (DataW H) → Bool := fun _ ds => decide (uptoBulkAll ds ≤ 1048576)
def OpenSpec.upto (s : _root_.Go.ChangeSpec) : _root_.Go.OpenSpec := { _root_.Go.OpenSpec.ofChange s with cond := some uptoSmall }

/-- 'interleaflaw03.CheckOf', WHERE WHAT IT READS IS OF BULK AT MOST 1048576: true; the input reads as it did. -/
def checkOfUptoRow : OpenClaim := { program := "ythaibfmnpcpkfaadoor", sum := "45a9cea2b05c09cb5f4d3523152b6e2473eaeeddcfa5f8322bddda754bc0f77d", func := "interleaf/interleaflaw03.CheckOf", spec := "checkOf", named := ["interleaf/check.lines"], apart := false, laid := [("interleaf/check.lines", laid_interleaf_check_lines)], narrowed := true }
def CheckOfUptoSaid : Prop := checkOfUptoRow.holds Tryd.pinned (OpenSpec.upto checkOfSpec)

/-- 'interleaflaw03.CheckLines', WHERE WHAT IT READS IS OF BULK AT MOST 1048576: true; the input reads as it did. -/
def checkLinesUptoRow : OpenClaim := { program := "ythaibfmnpcpkfaadoor", sum := "45a9cea2b05c09cb5f4d3523152b6e2473eaeeddcfa5f8322bddda754bc0f77d", func := "interleaf/interleaflaw03.CheckLines", spec := "checkLines", named := ["interleaf/check.lines"], apart := false, laid := [("interleaf/check.lines", laid_interleaf_check_lines)], narrowed := true }
def CheckLinesUptoSaid : Prop := checkLinesUptoRow.holds Tryd.pinned (OpenSpec.upto checkLinesSpec)

/-- 'interleaflaw03.CheckNumbers', WHERE WHAT IT READS IS OF BULK AT MOST 1048576: true; the input reads as it did. -/
def checkNumbersUptoRow : OpenClaim := { program := "ythaibfmnpcpkfaadoor", sum := "45a9cea2b05c09cb5f4d3523152b6e2473eaeeddcfa5f8322bddda754bc0f77d", func := "interleaf/interleaflaw03.CheckNumbers", spec := "checkNumbers", named := ["interleaf/check.lines"], apart := false, laid := [("interleaf/check.lines", laid_interleaf_check_lines)], narrowed := true }
def CheckNumbersUptoSaid : Prop := checkNumbersUptoRow.holds Tryd.pinned (OpenSpec.upto checkNumbersSpec)

/-- 'interleaflaw03.CheckSeals', WHERE WHAT IT READS IS OF BULK AT MOST 1048576: true; the input reads as it did. -/
def checkSealsUptoRow : OpenClaim := { program := "ythaibfmnpcpkfaadoor", sum := "45a9cea2b05c09cb5f4d3523152b6e2473eaeeddcfa5f8322bddda754bc0f77d", func := "interleaf/interleaflaw03.CheckSeals", spec := "checkSeals", named := ["interleaf/check.lines"], apart := false, laid := [("interleaf/check.lines", laid_interleaf_check_lines)], narrowed := true }
def CheckSealsUptoSaid : Prop := checkSealsUptoRow.holds Tryd.pinned (OpenSpec.upto checkSealsSpec)

/-- 'interleaflaw03.CheckOpens', WHERE WHAT IT READS IS OF BULK AT MOST 1048576: true; the input reads as it did. -/
def checkOpensUptoRow : OpenClaim := { program := "ythaibfmnpcpkfaadoor", sum := "45a9cea2b05c09cb5f4d3523152b6e2473eaeeddcfa5f8322bddda754bc0f77d", func := "interleaf/interleaflaw03.CheckOpens", spec := "checkOpens", named := ["interleaf/check.lines"], apart := false, laid := [("interleaf/check.lines", laid_interleaf_check_lines)], narrowed := true }
def CheckOpensUptoSaid : Prop := checkOpensUptoRow.holds Tryd.pinned (OpenSpec.upto checkOpensSpec)

/-- 'interleaflaw03.CheckBursts', WHERE WHAT IT READS IS OF BULK AT MOST 1048576: true; the input reads as it did. -/
def checkBurstsUptoRow : OpenClaim := { program := "ythaibfmnpcpkfaadoor", sum := "45a9cea2b05c09cb5f4d3523152b6e2473eaeeddcfa5f8322bddda754bc0f77d", func := "interleaf/interleaflaw03.CheckBursts", spec := "checkBursts", named := ["interleaf/check.lines"], apart := false, laid := [("interleaf/check.lines", laid_interleaf_check_lines)], narrowed := true }
def CheckBurstsUptoSaid : Prop := checkBurstsUptoRow.holds Tryd.pinned (OpenSpec.upto checkBurstsSpec)

end Rows
end Go.Proofs.YthaibfmnpcpkfaaDoor
