/-
  DERIVED. GIVEN WITH THE SEED: THE CARDS: each row of YthaibfmnpcpkfaaDoorRows.lean that lists a variable, with what it lists TIED to the program's text (the seventh form; the later family's looks); each row that meets fmt, with fmt's text TOLD by the authors' own Lean function (tested against real Go, not proved from fmt's source: count such statements apart). THE CARD IS WHAT COUNTS. Prove the row's statement (the work); the ties are given (YthaibfmnpcpkfaaDoorTie.lean); close each card by the builder's one call (the guide's Derived/Test/ToyasCard.lean, 'card_holds'). Laid BY PROGRAM, IN A SANDBOX (cutbox-door.mjs). By AI agents, Wed Nov 11 2026. No macro, syntax, notation, axiom, sorry.
-/
import Derived.Test.YthaibfmnpcpkfaaDoorRows
import GoSem.ClaimSeven
namespace Go.Proofs.YthaibfmnpcpkfaaDoor
namespace Rows

/-- THE TIED CARD OF 'interleaflaw03.CheckOf'. -/
def checkOfCard : Claim7 := { stood := { row := checkOfRow, standIns := [], harness := (true, "b5cd9744ab1d29e2cb5ea03e86f6d1200888fa6309210a055884aa8457e763c3"), looks := false }, kinds := [], alts := [], laidByText := true, laidKinds := [.data], laidTests := true, laidLooks := .later }
def CheckOfCardSaid : Prop := Claim7.holds Tryd.pinned (.plain (OpenSpec.ofChange checkOfSpec)) checkOfCard

/-- THE TIED CARD OF 'interleaflaw03.CheckLines'. -/
def checkLinesCard : Claim7 := { stood := { row := checkLinesRow, standIns := [], harness := (true, "b5cd9744ab1d29e2cb5ea03e86f6d1200888fa6309210a055884aa8457e763c3"), looks := false }, kinds := [], alts := [], laidByText := true, laidKinds := [.data], laidTests := true, laidLooks := .later }
def CheckLinesCardSaid : Prop := Claim7.holds Tryd.pinned (.plain (OpenSpec.ofChange checkLinesSpec)) checkLinesCard

/-- THE TIED CARD OF 'interleaflaw03.CheckNumbers'. -/
def checkNumbersCard : Claim7 := { stood := { row := checkNumbersRow, standIns := [], harness := (true, "b5cd9744ab1d29e2cb5ea03e86f6d1200888fa6309210a055884aa8457e763c3"), looks := false }, kinds := [], alts := [], laidByText := true, laidKinds := [.data], laidTests := true, laidLooks := .later }
def CheckNumbersCardSaid : Prop := Claim7.holds Tryd.pinned (.plain (OpenSpec.ofChange checkNumbersSpec)) checkNumbersCard

/-- THE TIED CARD OF 'interleaflaw03.CheckSeals'. -/
def checkSealsCard : Claim7 := { stood := { row := checkSealsRow, standIns := [], harness := (true, "b5cd9744ab1d29e2cb5ea03e86f6d1200888fa6309210a055884aa8457e763c3"), looks := false }, kinds := [], alts := [], laidByText := true, laidKinds := [.data], laidTests := true, laidLooks := .later }
def CheckSealsCardSaid : Prop := Claim7.holds Tryd.pinned (.plain (OpenSpec.ofChange checkSealsSpec)) checkSealsCard

/-- THE TIED CARD OF 'interleaflaw03.CheckOpens'. -/
def checkOpensCard : Claim7 := { stood := { row := checkOpensRow, standIns := [], harness := (true, "b5cd9744ab1d29e2cb5ea03e86f6d1200888fa6309210a055884aa8457e763c3"), looks := false }, kinds := [], alts := [], laidByText := true, laidKinds := [.data], laidTests := true, laidLooks := .later }
def CheckOpensCardSaid : Prop := Claim7.holds Tryd.pinned (.plain (OpenSpec.ofChange checkOpensSpec)) checkOpensCard

/-- THE TIED CARD OF 'interleaflaw03.CheckBursts'. -/
def checkBurstsCard : Claim7 := { stood := { row := checkBurstsRow, standIns := [], harness := (true, "b5cd9744ab1d29e2cb5ea03e86f6d1200888fa6309210a055884aa8457e763c3"), looks := false }, kinds := [], alts := [], laidByText := true, laidKinds := [.data], laidTests := true, laidLooks := .later }
def CheckBurstsCardSaid : Prop := Claim7.holds Tryd.pinned (.plain (OpenSpec.ofChange checkBurstsSpec)) checkBurstsCard

/-- THE SECOND FORM's CARD OF 'interleaflaw03.CheckOf'. -/
def checkOfUptoCard : Claim7 := { stood := { row := checkOfUptoRow, standIns := [], harness := (true, "b5cd9744ab1d29e2cb5ea03e86f6d1200888fa6309210a055884aa8457e763c3"), looks := false }, kinds := [], alts := [], laidByText := true, laidKinds := [.data], laidTests := true, laidLooks := .later }
def CheckOfUptoCardSaid : Prop := Claim7.holds Tryd.pinned (.plain (OpenSpec.upto checkOfSpec)) checkOfUptoCard

/-- THE SECOND FORM's CARD OF 'interleaflaw03.CheckLines'. -/
def checkLinesUptoCard : Claim7 := { stood := { row := checkLinesUptoRow, standIns := [], harness := (true, "b5cd9744ab1d29e2cb5ea03e86f6d1200888fa6309210a055884aa8457e763c3"), looks := false }, kinds := [], alts := [], laidByText := true, laidKinds := [.data], laidTests := true, laidLooks := .later }
def CheckLinesUptoCardSaid : Prop := Claim7.holds Tryd.pinned (.plain (OpenSpec.upto checkLinesSpec)) checkLinesUptoCard

/-- THE SECOND FORM's CARD OF 'interleaflaw03.CheckNumbers'. -/
def checkNumbersUptoCard : Claim7 := { stood := { row := checkNumbersUptoRow, standIns := [], harness := (true, "b5cd9744ab1d29e2cb5ea03e86f6d1200888fa6309210a055884aa8457e763c3"), looks := false }, kinds := [], alts := [], laidByText := true, laidKinds := [.data], laidTests := true, laidLooks := .later }
def CheckNumbersUptoCardSaid : Prop := Claim7.holds Tryd.pinned (.plain (OpenSpec.upto checkNumbersSpec)) checkNumbersUptoCard

/-- THE SECOND FORM's CARD OF 'interleaflaw03.CheckSeals'. -/
def checkSealsUptoCard : Claim7 := { stood := { row := checkSealsUptoRow, standIns := [], harness := (true, "b5cd9744ab1d29e2cb5ea03e86f6d1200888fa6309210a055884aa8457e763c3"), looks := false }, kinds := [], alts := [], laidByText := true, laidKinds := [.data], laidTests := true, laidLooks := .later }
def CheckSealsUptoCardSaid : Prop := Claim7.holds Tryd.pinned (.plain (OpenSpec.upto checkSealsSpec)) checkSealsUptoCard

/-- THE SECOND FORM's CARD OF 'interleaflaw03.CheckOpens'. -/
def checkOpensUptoCard : Claim7 := { stood := { row := checkOpensUptoRow, standIns := [], harness := (true, "b5cd9744ab1d29e2cb5ea03e86f6d1200888fa6309210a055884aa8457e763c3"), looks := false }, kinds := [], alts := [], laidByText := true, laidKinds := [.data], laidTests := true, laidLooks := .later }
def CheckOpensUptoCardSaid : Prop := Claim7.holds Tryd.pinned (.plain (OpenSpec.upto checkOpensSpec)) checkOpensUptoCard

/-- THE SECOND FORM's CARD OF 'interleaflaw03.CheckBursts'. -/
def checkBurstsUptoCard : Claim7 := { stood := { row := checkBurstsUptoRow, standIns := [], harness := (true, "b5cd9744ab1d29e2cb5ea03e86f6d1200888fa6309210a055884aa8457e763c3"), looks := false }, kinds := [], alts := [], laidByText := true, laidKinds := [.data], laidTests := true, laidLooks := .later }
def CheckBurstsUptoCardSaid : Prop := Claim7.holds Tryd.pinned (.plain (OpenSpec.upto checkBurstsSpec)) checkBurstsUptoCard
end Rows
end Go.Proofs.YthaibfmnpcpkfaaDoor
