/-
  DERIVED. GIVEN WITH THE SEED: THE CARDS: each row of YtjaongknagmfiaaGreatDoorRows.lean that lists a variable, with what it lists TIED to the program's text (the seventh form; the later family's looks); each row that meets fmt, with fmt's text TOLD by the authors' own Lean function (tested against real Go, not proved from fmt's source: count such statements apart). THE CARD IS WHAT COUNTS. Prove the row's statement (the work); the ties are given (YtjaongknagmfiaaGreatDoorTie.lean); close each card by the builder's one call (the guide's Derived/Test/ToyasCard.lean, 'card_holds'). Laid BY PROGRAM, IN A SANDBOX (cutbox-door.mjs). By AI agents, Wed Nov 11 2026. No macro, syntax, notation, axiom, sorry.
-/
import Derived.Test.YtjaongknagmfiaaGreatDoorRows
import GoSem.ClaimSeven
namespace Go.Proofs.YtjaongknagmfiaaGreatDoor
namespace Rows

/-- THE TIED CARD OF 'emendlaw2.NumSplits'. -/
def numSplitsCard : Claim7 := { stood := { row := numSplitsRow, standIns := [], harness := (true, "5c8d3496ff08032c06b46de32e8e4354cb9793f624815affa784d712e535eff0"), looks := true }, kinds := [], alts := [], laidByText := true, laidKinds := [.data, .data, .data, .data, .sentinel, .sentinel, .pinned], laidTests := true, laidLooks := .later }
def NumSplitsCardSaid : Prop := Claim7.holds Tryz.pinned (.plain (OpenSpec.ofChange numSplitsSpec)) numSplitsCard

/-- THE TIED CARD OF 'emendlaw2.NumPlains'. -/
def numPlainsCard : Claim7 := { stood := { row := numPlainsRow, standIns := [], harness := (true, "5c8d3496ff08032c06b46de32e8e4354cb9793f624815affa784d712e535eff0"), looks := true }, kinds := [], alts := [], laidByText := true, laidKinds := [.data, .data, .data, .data, .sentinel, .sentinel, .pinned], laidTests := true, laidLooks := .later }
def NumPlainsCardSaid : Prop := Claim7.holds Tryz.pinned (.plain (OpenSpec.ofChange numPlainsSpec)) numPlainsCard

/-- THE TIED CARD OF 'emendlaw2.NumCompares'. -/
def numComparesCard : Claim7 := { stood := { row := numComparesRow, standIns := [], harness := (true, "5c8d3496ff08032c06b46de32e8e4354cb9793f624815affa784d712e535eff0"), looks := true }, kinds := [], alts := [], laidByText := true, laidKinds := [.data, .data, .data, .data, .sentinel, .sentinel, .pinned], laidTests := true, laidLooks := .later }
def NumComparesCardSaid : Prop := Claim7.holds Tryz.pinned (.plain (OpenSpec.ofChange numComparesSpec)) numComparesCard

/-- THE TIED CARD OF 'emendlaw2.NumWholes'. -/
def numWholesCard : Claim7 := { stood := { row := numWholesRow, standIns := [], harness := (true, "5c8d3496ff08032c06b46de32e8e4354cb9793f624815affa784d712e535eff0"), looks := true }, kinds := [], alts := [], laidByText := true, laidKinds := [.data, .data, .data, .data, .sentinel, .sentinel, .pinned], laidTests := true, laidLooks := .later }
def NumWholesCardSaid : Prop := Claim7.holds Tryz.pinned (.plain (OpenSpec.ofChange numWholesSpec)) numWholesCard

/-- THE SECOND FORM's CARD OF 'emendlaw2.NumSplits'. -/
def numSplitsUptoCard : Claim7 := { stood := { row := numSplitsUptoRow, standIns := [], harness := (true, "5c8d3496ff08032c06b46de32e8e4354cb9793f624815affa784d712e535eff0"), looks := true }, kinds := [], alts := [], laidByText := true, laidKinds := [.data, .data, .data, .data, .sentinel, .sentinel, .pinned], laidTests := true, laidLooks := .later }
def NumSplitsUptoCardSaid : Prop := Claim7.holds Tryz.pinned (.plain (OpenSpec.upto numSplitsSpec)) numSplitsUptoCard

/-- THE SECOND FORM's CARD OF 'emendlaw2.NumPlains'. -/
def numPlainsUptoCard : Claim7 := { stood := { row := numPlainsUptoRow, standIns := [], harness := (true, "5c8d3496ff08032c06b46de32e8e4354cb9793f624815affa784d712e535eff0"), looks := true }, kinds := [], alts := [], laidByText := true, laidKinds := [.data, .data, .data, .data, .sentinel, .sentinel, .pinned], laidTests := true, laidLooks := .later }
def NumPlainsUptoCardSaid : Prop := Claim7.holds Tryz.pinned (.plain (OpenSpec.upto numPlainsSpec)) numPlainsUptoCard

/-- THE SECOND FORM's CARD OF 'emendlaw2.NumCompares'. -/
def numComparesUptoCard : Claim7 := { stood := { row := numComparesUptoRow, standIns := [], harness := (true, "5c8d3496ff08032c06b46de32e8e4354cb9793f624815affa784d712e535eff0"), looks := true }, kinds := [], alts := [], laidByText := true, laidKinds := [.data, .data, .data, .data, .sentinel, .sentinel, .pinned], laidTests := true, laidLooks := .later }
def NumComparesUptoCardSaid : Prop := Claim7.holds Tryz.pinned (.plain (OpenSpec.upto numComparesSpec)) numComparesUptoCard

/-- THE SECOND FORM's CARD OF 'emendlaw2.NumWholes'. -/
def numWholesUptoCard : Claim7 := { stood := { row := numWholesUptoRow, standIns := [], harness := (true, "5c8d3496ff08032c06b46de32e8e4354cb9793f624815affa784d712e535eff0"), looks := true }, kinds := [], alts := [], laidByText := true, laidKinds := [.data, .data, .data, .data, .sentinel, .sentinel, .pinned], laidTests := true, laidLooks := .later }
def NumWholesUptoCardSaid : Prop := Claim7.holds Tryz.pinned (.plain (OpenSpec.upto numWholesSpec)) numWholesUptoCard
end Rows
end Go.Proofs.YtjaongknagmfiaaGreatDoor
