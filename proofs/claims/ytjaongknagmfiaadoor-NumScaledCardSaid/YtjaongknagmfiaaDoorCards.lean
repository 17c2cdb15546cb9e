/-
  DERIVED. GIVEN WITH THE SEED: THE CARDS: each row of YtjaongknagmfiaaDoorRows.lean that lists a variable, with what it lists TIED to the program's text (the seventh form; the later family's looks); each row that meets fmt, with fmt's text TOLD by the authors' own Lean function (tested against real Go, not proved from fmt's source: count such statements apart). THE CARD IS WHAT COUNTS. Prove the row's statement (the work); the ties are given (YtjaongknagmfiaaDoorTie.lean); close each card by the builder's one call (the guide's Derived/Test/ToyasCard.lean, 'card_holds'). Laid BY PROGRAM, IN A SANDBOX (cutbox-door.mjs). By AI agents, Wed Nov 11 2026. No macro, syntax, notation, axiom, sorry.
-/
import Derived.Test.YtjaongknagmfiaaDoorRows
import GoSem.ClaimSeven
namespace Go.Proofs.YtjaongknagmfiaaDoor
namespace Rows

/-- THE TIED CARD OF 'emendlaw2.NumRuns'. -/
def numRunsCard : Claim7 := { stood := { row := numRunsRow, standIns := [], harness := (true, "81d6070aacfcf7d6b6ff1afc5d7a9ea9b3e0040f4b53074e8668aba4352202c1"), looks := true }, kinds := [], alts := [], laidByText := true, laidKinds := [.data, .data, .data, .data, .sentinel, .sentinel, .pinned], laidTests := true, laidLooks := .later }
def NumRunsCardSaid : Prop := Claim7.holds Tryd.pinned (.plain (OpenSpec.ofChange numRunsSpec)) numRunsCard

/-- THE TIED CARD OF 'emendlaw2.NumJoins'. -/
def numJoinsCard : Claim7 := { stood := { row := numJoinsRow, standIns := [], harness := (true, "81d6070aacfcf7d6b6ff1afc5d7a9ea9b3e0040f4b53074e8668aba4352202c1"), looks := true }, kinds := [], alts := [], laidByText := true, laidKinds := [.data, .data, .data, .data, .sentinel, .sentinel, .pinned], laidTests := true, laidLooks := .later }
def NumJoinsCardSaid : Prop := Claim7.holds Tryd.pinned (.plain (OpenSpec.ofChange numJoinsSpec)) numJoinsCard

/-- THE TIED CARD OF 'emendlaw2.NumOne'. -/
def numOneCard : Claim7 := { stood := { row := numOneRow, standIns := [], harness := (true, "81d6070aacfcf7d6b6ff1afc5d7a9ea9b3e0040f4b53074e8668aba4352202c1"), looks := true }, kinds := [], alts := [], laidByText := true, laidKinds := [.data, .data, .data, .data, .sentinel, .sentinel, .pinned], laidTests := true, laidLooks := .later }
def NumOneCardSaid : Prop := Claim7.holds Tryd.pinned (.plain (OpenSpec.ofChange numOneSpec)) numOneCard

/-- THE TIED CARD OF 'emendlaw2.NumOrder'. -/
def numOrderCard : Claim7 := { stood := { row := numOrderRow, standIns := [], harness := (true, "81d6070aacfcf7d6b6ff1afc5d7a9ea9b3e0040f4b53074e8668aba4352202c1"), looks := true }, kinds := [], alts := [], laidByText := true, laidKinds := [.data, .data, .data, .data, .sentinel, .sentinel, .pinned], laidTests := true, laidLooks := .later }
def NumOrderCardSaid : Prop := Claim7.holds Tryd.pinned (.plain (OpenSpec.ofChange numOrderSpec)) numOrderCard

/-- THE TIED CARD OF 'emendlaw2.NumInts'. -/
def numIntsCard : Claim7 := { stood := { row := numIntsRow, standIns := [], harness := (true, "81d6070aacfcf7d6b6ff1afc5d7a9ea9b3e0040f4b53074e8668aba4352202c1"), looks := true }, kinds := [], alts := [], laidByText := true, laidKinds := [.data, .data, .data, .data, .sentinel, .sentinel, .pinned], laidTests := true, laidLooks := .later }
def NumIntsCardSaid : Prop := Claim7.holds Tryd.pinned (.plain (OpenSpec.ofChange numIntsSpec)) numIntsCard

/-- THE TIED CARD OF 'emendlaw2.NumBases'. -/
def numBasesCard : Claim7 := { stood := { row := numBasesRow, standIns := [], harness := (true, "81d6070aacfcf7d6b6ff1afc5d7a9ea9b3e0040f4b53074e8668aba4352202c1"), looks := true }, kinds := [], alts := [], laidByText := true, laidKinds := [.data, .data, .data, .data, .sentinel, .sentinel, .pinned], laidTests := true, laidLooks := .later }
def NumBasesCardSaid : Prop := Claim7.holds Tryd.pinned (.plain (OpenSpec.ofChange numBasesSpec)) numBasesCard

/-- THE TIED CARD OF 'emendlaw2.NumScaled'. -/
def numScaledCard : Claim7 := { stood := { row := numScaledRow, standIns := [], harness := (true, "81d6070aacfcf7d6b6ff1afc5d7a9ea9b3e0040f4b53074e8668aba4352202c1"), looks := true }, kinds := [], alts := [], laidByText := true, laidKinds := [.data, .data, .data, .data, .sentinel, .sentinel, .pinned], laidTests := true, laidLooks := .later }
def NumScaledCardSaid : Prop := Claim7.holds Tryd.pinned (.plain (OpenSpec.ofChange numScaledSpec)) numScaledCard

/-- THE TIED CARD OF 'emendlaw2.NumLimits'. -/
def numLimitsCard : Claim7 := { stood := { row := numLimitsRow, standIns := [], harness := (true, "81d6070aacfcf7d6b6ff1afc5d7a9ea9b3e0040f4b53074e8668aba4352202c1"), looks := true }, kinds := [], alts := [], laidByText := true, laidKinds := [.data, .data, .data, .data, .sentinel, .sentinel, .pinned], laidTests := true, laidLooks := .later }
def NumLimitsCardSaid : Prop := Claim7.holds Tryd.pinned (.plain (OpenSpec.ofChange numLimitsSpec)) numLimitsCard

/-- THE SECOND FORM's CARD OF 'emendlaw2.NumRuns'. -/
def numRunsUptoCard : Claim7 := { stood := { row := numRunsUptoRow, standIns := [], harness := (true, "81d6070aacfcf7d6b6ff1afc5d7a9ea9b3e0040f4b53074e8668aba4352202c1"), looks := true }, kinds := [], alts := [], laidByText := true, laidKinds := [.data, .data, .data, .data, .sentinel, .sentinel, .pinned], laidTests := true, laidLooks := .later }
def NumRunsUptoCardSaid : Prop := Claim7.holds Tryd.pinned (.plain (OpenSpec.upto numRunsSpec)) numRunsUptoCard

/-- THE SECOND FORM's CARD OF 'emendlaw2.NumJoins'. -/
def numJoinsUptoCard : Claim7 := { stood := { row := numJoinsUptoRow, standIns := [], harness := (true, "81d6070aacfcf7d6b6ff1afc5d7a9ea9b3e0040f4b53074e8668aba4352202c1"), looks := true }, kinds := [], alts := [], laidByText := true, laidKinds := [.data, .data, .data, .data, .sentinel, .sentinel, .pinned], laidTests := true, laidLooks := .later }
def NumJoinsUptoCardSaid : Prop := Claim7.holds Tryd.pinned (.plain (OpenSpec.upto numJoinsSpec)) numJoinsUptoCard

/-- THE SECOND FORM's CARD OF 'emendlaw2.NumOne'. -/
def numOneUptoCard : Claim7 := { stood := { row := numOneUptoRow, standIns := [], harness := (true, "81d6070aacfcf7d6b6ff1afc5d7a9ea9b3e0040f4b53074e8668aba4352202c1"), looks := true }, kinds := [], alts := [], laidByText := true, laidKinds := [.data, .data, .data, .data, .sentinel, .sentinel, .pinned], laidTests := true, laidLooks := .later }
def NumOneUptoCardSaid : Prop := Claim7.holds Tryd.pinned (.plain (OpenSpec.upto numOneSpec)) numOneUptoCard

/-- THE SECOND FORM's CARD OF 'emendlaw2.NumOrder'. -/
def numOrderUptoCard : Claim7 := { stood := { row := numOrderUptoRow, standIns := [], harness := (true, "81d6070aacfcf7d6b6ff1afc5d7a9ea9b3e0040f4b53074e8668aba4352202c1"), looks := true }, kinds := [], alts := [], laidByText := true, laidKinds := [.data, .data, .data, .data, .sentinel, .sentinel, .pinned], laidTests := true, laidLooks := .later }
def NumOrderUptoCardSaid : Prop := Claim7.holds Tryd.pinned (.plain (OpenSpec.upto numOrderSpec)) numOrderUptoCard

/-- THE SECOND FORM's CARD OF 'emendlaw2.NumInts'. -/
def numIntsUptoCard : Claim7 := { stood := { row := numIntsUptoRow, standIns := [], harness := (true, "81d6070aacfcf7d6b6ff1afc5d7a9ea9b3e0040f4b53074e8668aba4352202c1"), looks := true }, kinds := [], alts := [], laidByText := true, laidKinds := [.data, .data, .data, .data, .sentinel, .sentinel, .pinned], laidTests := true, laidLooks := .later }
def NumIntsUptoCardSaid : Prop := Claim7.holds Tryd.pinned (.plain (OpenSpec.upto numIntsSpec)) numIntsUptoCard

/-- THE SECOND FORM's CARD OF 'emendlaw2.NumBases'. -/
def numBasesUptoCard : Claim7 := { stood := { row := numBasesUptoRow, standIns := [], harness := (true, "81d6070aacfcf7d6b6ff1afc5d7a9ea9b3e0040f4b53074e8668aba4352202c1"), looks := true }, kinds := [], alts := [], laidByText := true, laidKinds := [.data, .data, .data, .data, .sentinel, .sentinel, .pinned], laidTests := true, laidLooks := .later }
def NumBasesUptoCardSaid : Prop := Claim7.holds Tryd.pinned (.plain (OpenSpec.upto numBasesSpec)) numBasesUptoCard

/-- THE SECOND FORM's CARD OF 'emendlaw2.NumScaled'. -/
def numScaledUptoCard : Claim7 := { stood := { row := numScaledUptoRow, standIns := [], harness := (true, "81d6070aacfcf7d6b6ff1afc5d7a9ea9b3e0040f4b53074e8668aba4352202c1"), looks := true }, kinds := [], alts := [], laidByText := true, laidKinds := [.data, .data, .data, .data, .sentinel, .sentinel, .pinned], laidTests := true, laidLooks := .later }
def NumScaledUptoCardSaid : Prop := Claim7.holds Tryd.pinned (.plain (OpenSpec.upto numScaledSpec)) numScaledUptoCard

/-- THE SECOND FORM's CARD OF 'emendlaw2.NumLimits'. -/
def numLimitsUptoCard : Claim7 := { stood := { row := numLimitsUptoRow, standIns := [], harness := (true, "81d6070aacfcf7d6b6ff1afc5d7a9ea9b3e0040f4b53074e8668aba4352202c1"), looks := true }, kinds := [], alts := [], laidByText := true, laidKinds := [.data, .data, .data, .data, .sentinel, .sentinel, .pinned], laidTests := true, laidLooks := .later }
def NumLimitsUptoCardSaid : Prop := Claim7.holds Tryd.pinned (.plain (OpenSpec.upto numLimitsSpec)) numLimitsUptoCard
end Rows
end Go.Proofs.YtjaongknagmfiaaDoor
