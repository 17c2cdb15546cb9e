/-
  DERIVED. GIVEN WITH THE SEED: THE CARDS: each row of YtgdfgahpjebcaaaDoorRows.lean that lists a variable, with what it lists TIED to the program's text (the seventh form; the later family's looks); each row that meets fmt, with fmt's text TOLD by the authors' own Lean function (tested against real Go, not proved from fmt's source: count such statements apart). THE CARD IS WHAT COUNTS. Prove the row's statement (the work); the ties are given (YtgdfgahpjebcaaaDoorTie.lean); close each card by the builder's one call (the guide's Derived/Test/ToyasCard.lean, 'card_holds'). Laid BY PROGRAM, IN A SANDBOX (cutbox-door.mjs). By AI agents, Wed Nov 11 2026. No macro, syntax, notation, axiom, sorry.
-/
import Derived.Test.YtgdfgahpjebcaaaDoorRows
import GoSem.ClaimSeven
namespace Go.Proofs.YtgdfgahpjebcaaaDoor
namespace Rows

/-- THE TIED CARD OF 'emendlaw1.TextRuns'. -/
def textRunsCard : Claim7 := { stood := { row := textRunsRow, standIns := [], harness := (true, "68568483a87640ecc2e4dc23ec51bfdbd1d2bd389a0f0f81e64c2362d9df5417"), looks := true }, kinds := [], alts := [], laidByText := true, laidKinds := [.data, .data, .data, .handle], laidTests := true, laidLooks := .later }
def TextRunsCardSaid : Prop := Claim7.holds Tryd.pinned (.plain (OpenSpec.ofChange textRunsSpec)) textRunsCard

/-- THE TIED CARD OF 'emendlaw1.TextRunes'. -/
def textRunesCard : Claim7 := { stood := { row := textRunesRow, standIns := [], harness := (true, "68568483a87640ecc2e4dc23ec51bfdbd1d2bd389a0f0f81e64c2362d9df5417"), looks := true }, kinds := [], alts := [], laidByText := true, laidKinds := [.data, .data, .data, .handle], laidTests := true, laidLooks := .later }
def TextRunesCardSaid : Prop := Claim7.holds Tryd.pinned (.plain (OpenSpec.ofChange textRunesSpec)) textRunesCard

/-- THE TIED CARD OF 'emendlaw1.TextBytes'. -/
def textBytesCard : Claim7 := { stood := { row := textBytesRow, standIns := [], harness := (true, "68568483a87640ecc2e4dc23ec51bfdbd1d2bd389a0f0f81e64c2362d9df5417"), looks := true }, kinds := [], alts := [], laidByText := true, laidKinds := [.data, .data, .data, .handle], laidTests := true, laidLooks := .later }
def TextBytesCardSaid : Prop := Claim7.holds Tryd.pinned (.plain (OpenSpec.ofChange textBytesSpec)) textBytesCard

/-- THE TIED CARD OF 'emendlaw1.TextSpots'. -/
def textSpotsCard : Claim7 := { stood := { row := textSpotsRow, standIns := [], harness := (true, "68568483a87640ecc2e4dc23ec51bfdbd1d2bd389a0f0f81e64c2362d9df5417"), looks := true }, kinds := [], alts := [], laidByText := true, laidKinds := [.data, .data, .data, .handle], laidTests := true, laidLooks := .later }
def TextSpotsCardSaid : Prop := Claim7.holds Tryd.pinned (.plain (OpenSpec.ofChange textSpotsSpec)) textSpotsCard

/-- THE TIED CARD OF 'emendlaw1.TextEscapes'. -/
def textEscapesCard : Claim7 := { stood := { row := textEscapesRow, standIns := [], harness := (true, "68568483a87640ecc2e4dc23ec51bfdbd1d2bd389a0f0f81e64c2362d9df5417"), looks := true }, kinds := [], alts := [], laidByText := true, laidKinds := [.data, .data, .data, .handle], laidTests := true, laidLooks := .later }
def TextEscapesCardSaid : Prop := Claim7.holds Tryd.pinned (.plain (OpenSpec.ofChange textEscapesSpec)) textEscapesCard

/-- THE TIED CARD OF 'emendlaw1.TextBack'. -/
def textBackCard : Claim7 := { stood := { row := textBackRow, standIns := [], harness := (true, "68568483a87640ecc2e4dc23ec51bfdbd1d2bd389a0f0f81e64c2362d9df5417"), looks := true }, kinds := [], alts := [], laidByText := true, laidKinds := [.data, .data, .data, .handle], laidTests := true, laidLooks := .later }
def TextBackCardSaid : Prop := Claim7.holds Tryd.pinned (.plain (OpenSpec.ofChange textBackSpec)) textBackCard

/-- THE TIED CARD OF 'emendlaw1.TextSpotBack'. -/
def textSpotBackCard : Claim7 := { stood := { row := textSpotBackRow, standIns := [], harness := (true, "68568483a87640ecc2e4dc23ec51bfdbd1d2bd389a0f0f81e64c2362d9df5417"), looks := true }, kinds := [], alts := [], laidByText := true, laidKinds := [.data, .data, .data, .handle], laidTests := true, laidLooks := .later }
def TextSpotBackCardSaid : Prop := Claim7.holds Tryd.pinned (.plain (OpenSpec.ofChange textSpotBackSpec)) textSpotBackCard

/-- THE TIED CARD OF 'emendlaw1.TextJoined'. -/
def textJoinedCard : Claim7 := { stood := { row := textJoinedRow, standIns := [], harness := (true, "68568483a87640ecc2e4dc23ec51bfdbd1d2bd389a0f0f81e64c2362d9df5417"), looks := true }, kinds := [], alts := [], laidByText := true, laidKinds := [.data, .data, .data, .handle], laidTests := true, laidLooks := .later }
def TextJoinedCardSaid : Prop := Claim7.holds Tryd.pinned (.plain (OpenSpec.ofChange textJoinedSpec)) textJoinedCard

/-- THE TIED CARD OF 'emendlaw1.TextSizes'. -/
def textSizesCard : Claim7 := { stood := { row := textSizesRow, standIns := [], harness := (true, "68568483a87640ecc2e4dc23ec51bfdbd1d2bd389a0f0f81e64c2362d9df5417"), looks := true }, kinds := [], alts := [], laidByText := true, laidKinds := [.data, .data, .data, .handle], laidTests := true, laidLooks := .later }
def TextSizesCardSaid : Prop := Claim7.holds Tryd.pinned (.plain (OpenSpec.ofChange textSizesSpec)) textSizesCard

/-- THE SECOND FORM's CARD OF 'emendlaw1.TextRuns'. -/
def textRunsUptoCard : Claim7 := { stood := { row := textRunsUptoRow, standIns := [], harness := (true, "68568483a87640ecc2e4dc23ec51bfdbd1d2bd389a0f0f81e64c2362d9df5417"), looks := true }, kinds := [], alts := [], laidByText := true, laidKinds := [.data, .data, .data, .handle], laidTests := true, laidLooks := .later }
def TextRunsUptoCardSaid : Prop := Claim7.holds Tryd.pinned (.plain (OpenSpec.upto textRunsSpec)) textRunsUptoCard

/-- THE SECOND FORM's CARD OF 'emendlaw1.TextRunes'. -/
def textRunesUptoCard : Claim7 := { stood := { row := textRunesUptoRow, standIns := [], harness := (true, "68568483a87640ecc2e4dc23ec51bfdbd1d2bd389a0f0f81e64c2362d9df5417"), looks := true }, kinds := [], alts := [], laidByText := true, laidKinds := [.data, .data, .data, .handle], laidTests := true, laidLooks := .later }
def TextRunesUptoCardSaid : Prop := Claim7.holds Tryd.pinned (.plain (OpenSpec.upto textRunesSpec)) textRunesUptoCard

/-- THE SECOND FORM's CARD OF 'emendlaw1.TextBytes'. -/
def textBytesUptoCard : Claim7 := { stood := { row := textBytesUptoRow, standIns := [], harness := (true, "68568483a87640ecc2e4dc23ec51bfdbd1d2bd389a0f0f81e64c2362d9df5417"), looks := true }, kinds := [], alts := [], laidByText := true, laidKinds := [.data, .data, .data, .handle], laidTests := true, laidLooks := .later }
def TextBytesUptoCardSaid : Prop := Claim7.holds Tryd.pinned (.plain (OpenSpec.upto textBytesSpec)) textBytesUptoCard

/-- THE SECOND FORM's CARD OF 'emendlaw1.TextSpots'. -/
def textSpotsUptoCard : Claim7 := { stood := { row := textSpotsUptoRow, standIns := [], harness := (true, "68568483a87640ecc2e4dc23ec51bfdbd1d2bd389a0f0f81e64c2362d9df5417"), looks := true }, kinds := [], alts := [], laidByText := true, laidKinds := [.data, .data, .data, .handle], laidTests := true, laidLooks := .later }
def TextSpotsUptoCardSaid : Prop := Claim7.holds Tryd.pinned (.plain (OpenSpec.upto textSpotsSpec)) textSpotsUptoCard

/-- THE SECOND FORM's CARD OF 'emendlaw1.TextEscapes'. -/
def textEscapesUptoCard : Claim7 := { stood := { row := textEscapesUptoRow, standIns := [], harness := (true, "68568483a87640ecc2e4dc23ec51bfdbd1d2bd389a0f0f81e64c2362d9df5417"), looks := true }, kinds := [], alts := [], laidByText := true, laidKinds := [.data, .data, .data, .handle], laidTests := true, laidLooks := .later }
def TextEscapesUptoCardSaid : Prop := Claim7.holds Tryd.pinned (.plain (OpenSpec.upto textEscapesSpec)) textEscapesUptoCard

/-- THE SECOND FORM's CARD OF 'emendlaw1.TextBack'. -/
def textBackUptoCard : Claim7 := { stood := { row := textBackUptoRow, standIns := [], harness := (true, "68568483a87640ecc2e4dc23ec51bfdbd1d2bd389a0f0f81e64c2362d9df5417"), looks := true }, kinds := [], alts := [], laidByText := true, laidKinds := [.data, .data, .data, .handle], laidTests := true, laidLooks := .later }
def TextBackUptoCardSaid : Prop := Claim7.holds Tryd.pinned (.plain (OpenSpec.upto textBackSpec)) textBackUptoCard

/-- THE SECOND FORM's CARD OF 'emendlaw1.TextSpotBack'. -/
def textSpotBackUptoCard : Claim7 := { stood := { row := textSpotBackUptoRow, standIns := [], harness := (true, "68568483a87640ecc2e4dc23ec51bfdbd1d2bd389a0f0f81e64c2362d9df5417"), looks := true }, kinds := [], alts := [], laidByText := true, laidKinds := [.data, .data, .data, .handle], laidTests := true, laidLooks := .later }
def TextSpotBackUptoCardSaid : Prop := Claim7.holds Tryd.pinned (.plain (OpenSpec.upto textSpotBackSpec)) textSpotBackUptoCard

/-- THE SECOND FORM's CARD OF 'emendlaw1.TextJoined'. -/
def textJoinedUptoCard : Claim7 := { stood := { row := textJoinedUptoRow, standIns := [], harness := (true, "68568483a87640ecc2e4dc23ec51bfdbd1d2bd389a0f0f81e64c2362d9df5417"), looks := true }, kinds := [], alts := [], laidByText := true, laidKinds := [.data, .data, .data, .handle], laidTests := true, laidLooks := .later }
def TextJoinedUptoCardSaid : Prop := Claim7.holds Tryd.pinned (.plain (OpenSpec.upto textJoinedSpec)) textJoinedUptoCard

/-- THE SECOND FORM's CARD OF 'emendlaw1.TextSizes'. -/
def textSizesUptoCard : Claim7 := { stood := { row := textSizesUptoRow, standIns := [], harness := (true, "68568483a87640ecc2e4dc23ec51bfdbd1d2bd389a0f0f81e64c2362d9df5417"), looks := true }, kinds := [], alts := [], laidByText := true, laidKinds := [.data, .data, .data, .handle], laidTests := true, laidLooks := .later }
def TextSizesUptoCardSaid : Prop := Claim7.holds Tryd.pinned (.plain (OpenSpec.upto textSizesSpec)) textSizesUptoCard
end Rows
end Go.Proofs.YtgdfgahpjebcaaaDoor
