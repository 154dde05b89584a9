/-
  DERIVED. GIVEN WITH THE SEED: THE CARDS: each row of YtfaegieaicigcaaDoorRows.lean that lists a variable, with what it lists TIED to the program's text (the seventh form; the later family's looks); each row that meets fmt, with fmt's text TOLD by the authors' own Lean function (tested against real Go, not proved from fmt's source: count such statements apart). THE CARD IS WHAT COUNTS. Prove the row's statement (the work); the ties are given (YtfaegieaicigcaaDoorTie.lean); close each card by the builder's one call (the guide's Derived/Test/ToyasCard.lean, 'card_holds'). Laid BY PROGRAM, IN A SANDBOX (cutbox-door.mjs). By AI agents, Wed Nov 11 2026. No macro, syntax, notation, axiom, sorry.
-/
import Derived.Test.YtfaegieaicigcaaDoorRows
import GoSem.ClaimSeven
namespace Go.Proofs.YtfaegieaicigcaaDoor
namespace Rows

/-- THE TIED CARD OF 'interleaflaw17.CommitBytes'. -/
def commitBytesCard : Claim7 := { stood := { row := commitBytesRow, standIns := [], harness := (true, "247589ced8f38e3008401938d2b91bd262e9714ea6b9f34861f6ec1bf74e08fb"), looks := false }, kinds := [], alts := [], laidByText := true, laidKinds := [.data, .data], laidTests := true, laidLooks := .later }
def CommitBytesCardSaid : Prop := Claim7.holds Tryd.pinned (.plain (OpenSpec.ofChange commitBytesSpec)) commitBytesCard

/-- THE TIED CARD OF 'interleaflaw17.CommitEqual'. -/
def commitEqualCard : Claim7 := { stood := { row := commitEqualRow, standIns := [], harness := (true, "247589ced8f38e3008401938d2b91bd262e9714ea6b9f34861f6ec1bf74e08fb"), looks := false }, kinds := [], alts := [], laidByText := true, laidKinds := [.data, .data], laidTests := true, laidLooks := .later }
def CommitEqualCardSaid : Prop := Claim7.holds Tryd.pinned (.plain (OpenSpec.ofChange commitEqualSpec)) commitEqualCard

/-- THE SECOND FORM's CARD OF 'interleaflaw17.CommitBytes'. -/
def commitBytesUptoCard : Claim7 := { stood := { row := commitBytesUptoRow, standIns := [], harness := (true, "247589ced8f38e3008401938d2b91bd262e9714ea6b9f34861f6ec1bf74e08fb"), looks := false }, kinds := [], alts := [], laidByText := true, laidKinds := [.data, .data], laidTests := true, laidLooks := .later }
def CommitBytesUptoCardSaid : Prop := Claim7.holds Tryd.pinned (.plain (OpenSpec.upto commitBytesSpec)) commitBytesUptoCard

/-- THE SECOND FORM's CARD OF 'interleaflaw17.CommitEqual'. -/
def commitEqualUptoCard : Claim7 := { stood := { row := commitEqualUptoRow, standIns := [], harness := (true, "247589ced8f38e3008401938d2b91bd262e9714ea6b9f34861f6ec1bf74e08fb"), looks := false }, kinds := [], alts := [], laidByText := true, laidKinds := [.data, .data], laidTests := true, laidLooks := .later }
def CommitEqualUptoCardSaid : Prop := Claim7.holds Tryd.pinned (.plain (OpenSpec.upto commitEqualSpec)) commitEqualUptoCard
end Rows
end Go.Proofs.YtfaegieaicigcaaDoor
