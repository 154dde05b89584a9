/-
  DERIVED. GIVEN WITH THE SEED: THE CARDS: each row of YtfhlbfalgdipiaaDoorRows.lean that lists a variable, with what it lists TIED to the program's text (the seventh form; the later family's looks); each row that meets fmt, with fmt's text TOLD by the authors' own Lean function (tested against real Go, not proved from fmt's source: count such statements apart). THE CARD IS WHAT COUNTS. Prove the row's statement (the work); the ties are given (YtfhlbfalgdipiaaDoorTie.lean); close each card by the builder's one call (the guide's Derived/Test/ToyasCard.lean, 'card_holds'). Laid BY PROGRAM, IN A SANDBOX (cutbox-door.mjs). By AI agents, Wed Nov 11 2026. No macro, syntax, notation, axiom, sorry.
-/
import Derived.Test.YtfhlbfalgdipiaaDoorRows
import GoSem.ClaimSeven
namespace Go.Proofs.YtfhlbfalgdipiaaDoor
namespace Rows

/-- THE TIED CARD OF 'interleaflaw16.PackObjects'. -/
def packObjectsCard : Claim7 := { stood := { row := packObjectsRow, standIns := [], harness := (true, "208e2a99497b349f59da371519d60d5b711dbe98c0c653b6d161017aab40a0ab"), looks := false }, kinds := [], alts := [], laidByText := true, laidKinds := [.data, .data, .data], laidTests := true, laidLooks := .later }
def PackObjectsCardSaid : Prop := Claim7.holds Tryd.pinned (.plain (OpenSpec.ofChange packObjectsSpec)) packObjectsCard

/-- THE TIED CARD OF 'interleaflaw16.PackReads'. -/
def packReadsCard : Claim7 := { stood := { row := packReadsRow, standIns := [], harness := (true, "208e2a99497b349f59da371519d60d5b711dbe98c0c653b6d161017aab40a0ab"), looks := false }, kinds := [], alts := [], laidByText := true, laidKinds := [.data, .data, .data], laidTests := true, laidLooks := .later }
def PackReadsCardSaid : Prop := Claim7.holds Tryd.pinned (.plain (OpenSpec.ofChange packReadsSpec)) packReadsCard

/-- THE TIED CARD OF 'interleaflaw16.PackErrs'. -/
def packErrsCard : Claim7 := { stood := { row := packErrsRow, standIns := [], harness := (true, "208e2a99497b349f59da371519d60d5b711dbe98c0c653b6d161017aab40a0ab"), looks := false }, kinds := [], alts := [], laidByText := true, laidKinds := [.data, .data, .data], laidTests := true, laidLooks := .later }
def PackErrsCardSaid : Prop := Claim7.holds Tryd.pinned (.plain (OpenSpec.ofChange packErrsSpec)) packErrsCard

/-- THE TIED CARD OF 'interleaflaw16.PackOne'. -/
def packOneCard : Claim7 := { stood := { row := packOneRow, standIns := [], harness := (true, "208e2a99497b349f59da371519d60d5b711dbe98c0c653b6d161017aab40a0ab"), looks := false }, kinds := [], alts := [], laidByText := true, laidKinds := [.data, .data, .data], laidTests := true, laidLooks := .later }
def PackOneCardSaid : Prop := Claim7.holds Tryd.pinned (.plain (OpenSpec.ofChange packOneSpec)) packOneCard

/-- THE SECOND FORM's CARD OF 'interleaflaw16.PackObjects'. -/
def packObjectsUptoCard : Claim7 := { stood := { row := packObjectsUptoRow, standIns := [], harness := (true, "208e2a99497b349f59da371519d60d5b711dbe98c0c653b6d161017aab40a0ab"), looks := false }, kinds := [], alts := [], laidByText := true, laidKinds := [.data, .data, .data], laidTests := true, laidLooks := .later }
def PackObjectsUptoCardSaid : Prop := Claim7.holds Tryd.pinned (.plain (OpenSpec.upto packObjectsSpec)) packObjectsUptoCard

/-- THE SECOND FORM's CARD OF 'interleaflaw16.PackReads'. -/
def packReadsUptoCard : Claim7 := { stood := { row := packReadsUptoRow, standIns := [], harness := (true, "208e2a99497b349f59da371519d60d5b711dbe98c0c653b6d161017aab40a0ab"), looks := false }, kinds := [], alts := [], laidByText := true, laidKinds := [.data, .data, .data], laidTests := true, laidLooks := .later }
def PackReadsUptoCardSaid : Prop := Claim7.holds Tryd.pinned (.plain (OpenSpec.upto packReadsSpec)) packReadsUptoCard

/-- THE SECOND FORM's CARD OF 'interleaflaw16.PackErrs'. -/
def packErrsUptoCard : Claim7 := { stood := { row := packErrsUptoRow, standIns := [], harness := (true, "208e2a99497b349f59da371519d60d5b711dbe98c0c653b6d161017aab40a0ab"), looks := false }, kinds := [], alts := [], laidByText := true, laidKinds := [.data, .data, .data], laidTests := true, laidLooks := .later }
def PackErrsUptoCardSaid : Prop := Claim7.holds Tryd.pinned (.plain (OpenSpec.upto packErrsSpec)) packErrsUptoCard

/-- THE SECOND FORM's CARD OF 'interleaflaw16.PackOne'. -/
def packOneUptoCard : Claim7 := { stood := { row := packOneUptoRow, standIns := [], harness := (true, "208e2a99497b349f59da371519d60d5b711dbe98c0c653b6d161017aab40a0ab"), looks := false }, kinds := [], alts := [], laidByText := true, laidKinds := [.data, .data, .data], laidTests := true, laidLooks := .later }
def PackOneUptoCardSaid : Prop := Claim7.holds Tryd.pinned (.plain (OpenSpec.upto packOneSpec)) packOneUptoCard
end Rows
end Go.Proofs.YtfhlbfalgdipiaaDoor
