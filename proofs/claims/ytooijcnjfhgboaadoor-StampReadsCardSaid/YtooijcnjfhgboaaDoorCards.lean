/-
  DERIVED. GIVEN WITH THE SEED: THE CARDS: each row of YtooijcnjfhgboaaDoorRows.lean that lists a variable, with what it lists TIED to the program's text (the seventh form; the later family's looks); each row that meets fmt, with fmt's text TOLD by the authors' own Lean function (tested against real Go, not proved from fmt's source: count such statements apart). THE CARD IS WHAT COUNTS. Prove the row's statement (the work); the ties are given (YtooijcnjfhgboaaDoorTie.lean); close each card by the builder's one call (the guide's Derived/Test/ToyasCard.lean, 'card_holds'). Laid BY PROGRAM, IN A SANDBOX (cutbox-door.mjs). By AI agents, Wed Nov 11 2026. No macro, syntax, notation, axiom, sorry.
-/
import Derived.Test.YtooijcnjfhgboaaDoorRows
import GoSem.ClaimSeven
namespace Go.Proofs.YtooijcnjfhgboaaDoor
namespace Rows

/-- THE TIED CARD OF 'interleaflaw02.StampOf'. -/
def stampOfCard : Claim7 := { stood := { row := stampOfRow, standIns := [], harness := (true, "011524a62d2f104073e19eed0d003e9515934427227ba4a23e42d12ad18e1c11"), looks := false }, kinds := [], alts := [], laidByText := true, laidKinds := [.data, .data], laidTests := true, laidLooks := .later }
def StampOfCardSaid : Prop := Claim7.holds Tryd.pinned (.plain (OpenSpec.ofChange stampOfSpec)) stampOfCard

/-- THE TIED CARD OF 'interleaflaw02.StampSizes'. -/
def stampSizesCard : Claim7 := { stood := { row := stampSizesRow, standIns := [], harness := (true, "011524a62d2f104073e19eed0d003e9515934427227ba4a23e42d12ad18e1c11"), looks := false }, kinds := [], alts := [], laidByText := true, laidKinds := [.data, .data], laidTests := true, laidLooks := .later }
def StampSizesCardSaid : Prop := Claim7.holds Tryd.pinned (.plain (OpenSpec.ofChange stampSizesSpec)) stampSizesCard

/-- THE TIED CARD OF 'interleaflaw02.StampLess'. -/
def stampLessCard : Claim7 := { stood := { row := stampLessRow, standIns := [], harness := (true, "011524a62d2f104073e19eed0d003e9515934427227ba4a23e42d12ad18e1c11"), looks := false }, kinds := [], alts := [], laidByText := true, laidKinds := [.data, .data], laidTests := true, laidLooks := .later }
def StampLessCardSaid : Prop := Claim7.holds Tryd.pinned (.plain (OpenSpec.ofChange stampLessSpec)) stampLessCard

/-- THE TIED CARD OF 'interleaflaw02.StampRows'. -/
def stampRowsCard : Claim7 := { stood := { row := stampRowsRow, standIns := [], harness := (true, "011524a62d2f104073e19eed0d003e9515934427227ba4a23e42d12ad18e1c11"), looks := false }, kinds := [], alts := [], laidByText := true, laidKinds := [.data, .data], laidTests := true, laidLooks := .later }
def StampRowsCardSaid : Prop := Claim7.holds Tryd.pinned (.plain (OpenSpec.ofChange stampRowsSpec)) stampRowsCard

/-- THE TIED CARD OF 'interleaflaw02.StampTexts'. -/
def stampTextsCard : Claim7 := { stood := { row := stampTextsRow, standIns := [], harness := (true, "011524a62d2f104073e19eed0d003e9515934427227ba4a23e42d12ad18e1c11"), looks := false }, kinds := [], alts := [], laidByText := true, laidKinds := [.data, .data], laidTests := true, laidLooks := .later }
def StampTextsCardSaid : Prop := Claim7.holds Tryd.pinned (.plain (OpenSpec.ofChange stampTextsSpec)) stampTextsCard

/-- THE TIED CARD OF 'interleaflaw02.StampReads'. -/
def stampReadsCard : Claim7 := { stood := { row := stampReadsRow, standIns := [], harness := (true, "011524a62d2f104073e19eed0d003e9515934427227ba4a23e42d12ad18e1c11"), looks := false }, kinds := [], alts := [], laidByText := true, laidKinds := [.data, .data], laidTests := true, laidLooks := .later }
def StampReadsCardSaid : Prop := Claim7.holds Tryd.pinned (.plain (OpenSpec.ofChange stampReadsSpec)) stampReadsCard

/-- THE SECOND FORM's CARD OF 'interleaflaw02.StampOf'. -/
def stampOfUptoCard : Claim7 := { stood := { row := stampOfUptoRow, standIns := [], harness := (true, "011524a62d2f104073e19eed0d003e9515934427227ba4a23e42d12ad18e1c11"), looks := false }, kinds := [], alts := [], laidByText := true, laidKinds := [.data, .data], laidTests := true, laidLooks := .later }
def StampOfUptoCardSaid : Prop := Claim7.holds Tryd.pinned (.plain (OpenSpec.upto stampOfSpec)) stampOfUptoCard

/-- THE SECOND FORM's CARD OF 'interleaflaw02.StampSizes'. -/
def stampSizesUptoCard : Claim7 := { stood := { row := stampSizesUptoRow, standIns := [], harness := (true, "011524a62d2f104073e19eed0d003e9515934427227ba4a23e42d12ad18e1c11"), looks := false }, kinds := [], alts := [], laidByText := true, laidKinds := [.data, .data], laidTests := true, laidLooks := .later }
def StampSizesUptoCardSaid : Prop := Claim7.holds Tryd.pinned (.plain (OpenSpec.upto stampSizesSpec)) stampSizesUptoCard

/-- THE SECOND FORM's CARD OF 'interleaflaw02.StampLess'. -/
def stampLessUptoCard : Claim7 := { stood := { row := stampLessUptoRow, standIns := [], harness := (true, "011524a62d2f104073e19eed0d003e9515934427227ba4a23e42d12ad18e1c11"), looks := false }, kinds := [], alts := [], laidByText := true, laidKinds := [.data, .data], laidTests := true, laidLooks := .later }
def StampLessUptoCardSaid : Prop := Claim7.holds Tryd.pinned (.plain (OpenSpec.upto stampLessSpec)) stampLessUptoCard

/-- THE SECOND FORM's CARD OF 'interleaflaw02.StampRows'. -/
def stampRowsUptoCard : Claim7 := { stood := { row := stampRowsUptoRow, standIns := [], harness := (true, "011524a62d2f104073e19eed0d003e9515934427227ba4a23e42d12ad18e1c11"), looks := false }, kinds := [], alts := [], laidByText := true, laidKinds := [.data, .data], laidTests := true, laidLooks := .later }
def StampRowsUptoCardSaid : Prop := Claim7.holds Tryd.pinned (.plain (OpenSpec.upto stampRowsSpec)) stampRowsUptoCard

/-- THE SECOND FORM's CARD OF 'interleaflaw02.StampTexts'. -/
def stampTextsUptoCard : Claim7 := { stood := { row := stampTextsUptoRow, standIns := [], harness := (true, "011524a62d2f104073e19eed0d003e9515934427227ba4a23e42d12ad18e1c11"), looks := false }, kinds := [], alts := [], laidByText := true, laidKinds := [.data, .data], laidTests := true, laidLooks := .later }
def StampTextsUptoCardSaid : Prop := Claim7.holds Tryd.pinned (.plain (OpenSpec.upto stampTextsSpec)) stampTextsUptoCard

/-- THE SECOND FORM's CARD OF 'interleaflaw02.StampReads'. -/
def stampReadsUptoCard : Claim7 := { stood := { row := stampReadsUptoRow, standIns := [], harness := (true, "011524a62d2f104073e19eed0d003e9515934427227ba4a23e42d12ad18e1c11"), looks := false }, kinds := [], alts := [], laidByText := true, laidKinds := [.data, .data], laidTests := true, laidLooks := .later }
def StampReadsUptoCardSaid : Prop := Claim7.holds Tryd.pinned (.plain (OpenSpec.upto stampReadsSpec)) stampReadsUptoCard
end Rows
end Go.Proofs.YtooijcnjfhgboaaDoor
