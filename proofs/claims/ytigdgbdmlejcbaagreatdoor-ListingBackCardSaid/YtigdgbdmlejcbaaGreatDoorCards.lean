/-
  DERIVED. GIVEN WITH THE SEED: THE CARDS: each row of YtigdgbdmlejcbaaGreatDoorRows.lean that lists a variable, with what it lists TIED to the program's text (the seventh form; the later family's looks); each row that meets fmt, with fmt's text TOLD by the authors' own Lean function (tested against real Go, not proved from fmt's source: count such statements apart). THE CARD IS WHAT COUNTS. Prove the row's statement (the work); the ties are given (YtigdgbdmlejcbaaGreatDoorTie.lean); close each card by the builder's one call (the guide's Derived/Test/ToyasCard.lean, 'card_holds'). Laid BY PROGRAM, IN A SANDBOX (cutbox-door.mjs). By AI agents, Wed Nov 11 2026. No macro, syntax, notation, axiom, sorry.
-/
import Derived.Test.YtigdgbdmlejcbaaGreatDoorRows
import GoSem.ClaimSeven
namespace Go.Proofs.YtigdgbdmlejcbaaGreatDoor
namespace Rows

/-- THE TIED CARD OF 'rondeaulaw10.ListingPrints'. -/
def listingPrintsCard : Claim7 := { stood := { row := listingPrintsRow, standIns := [], harness := (true, "dbab0c56ccb18c119e6fe29ce3e4fb596a873aa898b624b687d98423ad961ffe"), looks := true }, kinds := [], alts := [], laidByText := true, laidKinds := [.data, .data, .data, .data, .sentinel, .sentinel, .pinned], laidTests := true, laidLooks := .later }
def ListingPrintsCardSaid : Prop := Claim7.holds Tryz.pinned (.plain (OpenSpec.ofChange listingPrintsSpec)) listingPrintsCard

/-- THE TIED CARD OF 'rondeaulaw10.ListingReads'. -/
def listingReadsCard : Claim7 := { stood := { row := listingReadsRow, standIns := [], harness := (true, "dbab0c56ccb18c119e6fe29ce3e4fb596a873aa898b624b687d98423ad961ffe"), looks := true }, kinds := [], alts := [], laidByText := true, laidKinds := [.data, .data, .data, .data, .sentinel, .sentinel, .pinned], laidTests := true, laidLooks := .later }
def ListingReadsCardSaid : Prop := Claim7.holds Tryz.pinned (.plain (OpenSpec.ofChange listingReadsSpec)) listingReadsCard

/-- THE TIED CARD OF 'rondeaulaw10.ListingBack'. -/
def listingBackCard : Claim7 := { stood := { row := listingBackRow, standIns := [], harness := (true, "dbab0c56ccb18c119e6fe29ce3e4fb596a873aa898b624b687d98423ad961ffe"), looks := true }, kinds := [], alts := [], laidByText := true, laidKinds := [.data, .data, .data, .data, .sentinel, .sentinel, .pinned], laidTests := true, laidLooks := .later }
def ListingBackCardSaid : Prop := Claim7.holds Tryz.pinned (.plain (OpenSpec.ofChange listingBackSpec)) listingBackCard

/-- THE TIED CARD OF 'rondeaulaw10.ListingOne'. -/
def listingOneCard : Claim7 := { stood := { row := listingOneRow, standIns := [], harness := (true, "dbab0c56ccb18c119e6fe29ce3e4fb596a873aa898b624b687d98423ad961ffe"), looks := true }, kinds := [], alts := [], laidByText := true, laidKinds := [.data, .data, .data, .data, .sentinel, .sentinel, .pinned], laidTests := true, laidLooks := .later }
def ListingOneCardSaid : Prop := Claim7.holds Tryz.pinned (.plain (OpenSpec.ofChange listingOneSpec)) listingOneCard

/-- THE TIED CARD OF 'rondeaulaw10.ListingLines'. -/
def listingLinesCard : Claim7 := { stood := { row := listingLinesRow, standIns := [], harness := (true, "dbab0c56ccb18c119e6fe29ce3e4fb596a873aa898b624b687d98423ad961ffe"), looks := true }, kinds := [], alts := [], laidByText := true, laidKinds := [.data, .data, .data, .data, .sentinel, .sentinel, .pinned], laidTests := true, laidLooks := .later }
def ListingLinesCardSaid : Prop := Claim7.holds Tryz.pinned (.plain (OpenSpec.ofChange listingLinesSpec)) listingLinesCard

/-- THE TIED CARD OF 'rondeaulaw10.ListingPlace'. -/
def listingPlaceCard : Claim7 := { stood := { row := listingPlaceRow, standIns := [], harness := (true, "dbab0c56ccb18c119e6fe29ce3e4fb596a873aa898b624b687d98423ad961ffe"), looks := true }, kinds := [], alts := [], laidByText := true, laidKinds := [.data, .data, .data, .data, .sentinel, .sentinel, .pinned], laidTests := true, laidLooks := .later }
def ListingPlaceCardSaid : Prop := Claim7.holds Tryz.pinned (.plain (OpenSpec.ofChange listingPlaceSpec)) listingPlaceCard

/-- THE SECOND FORM's CARD OF 'rondeaulaw10.ListingPrints'. -/
def listingPrintsUptoCard : Claim7 := { stood := { row := listingPrintsUptoRow, standIns := [], harness := (true, "dbab0c56ccb18c119e6fe29ce3e4fb596a873aa898b624b687d98423ad961ffe"), looks := true }, kinds := [], alts := [], laidByText := true, laidKinds := [.data, .data, .data, .data, .sentinel, .sentinel, .pinned], laidTests := true, laidLooks := .later }
def ListingPrintsUptoCardSaid : Prop := Claim7.holds Tryz.pinned (.plain (OpenSpec.upto listingPrintsSpec)) listingPrintsUptoCard

/-- THE SECOND FORM's CARD OF 'rondeaulaw10.ListingReads'. -/
def listingReadsUptoCard : Claim7 := { stood := { row := listingReadsUptoRow, standIns := [], harness := (true, "dbab0c56ccb18c119e6fe29ce3e4fb596a873aa898b624b687d98423ad961ffe"), looks := true }, kinds := [], alts := [], laidByText := true, laidKinds := [.data, .data, .data, .data, .sentinel, .sentinel, .pinned], laidTests := true, laidLooks := .later }
def ListingReadsUptoCardSaid : Prop := Claim7.holds Tryz.pinned (.plain (OpenSpec.upto listingReadsSpec)) listingReadsUptoCard

/-- THE SECOND FORM's CARD OF 'rondeaulaw10.ListingBack'. -/
def listingBackUptoCard : Claim7 := { stood := { row := listingBackUptoRow, standIns := [], harness := (true, "dbab0c56ccb18c119e6fe29ce3e4fb596a873aa898b624b687d98423ad961ffe"), looks := true }, kinds := [], alts := [], laidByText := true, laidKinds := [.data, .data, .data, .data, .sentinel, .sentinel, .pinned], laidTests := true, laidLooks := .later }
def ListingBackUptoCardSaid : Prop := Claim7.holds Tryz.pinned (.plain (OpenSpec.upto listingBackSpec)) listingBackUptoCard

/-- THE SECOND FORM's CARD OF 'rondeaulaw10.ListingOne'. -/
def listingOneUptoCard : Claim7 := { stood := { row := listingOneUptoRow, standIns := [], harness := (true, "dbab0c56ccb18c119e6fe29ce3e4fb596a873aa898b624b687d98423ad961ffe"), looks := true }, kinds := [], alts := [], laidByText := true, laidKinds := [.data, .data, .data, .data, .sentinel, .sentinel, .pinned], laidTests := true, laidLooks := .later }
def ListingOneUptoCardSaid : Prop := Claim7.holds Tryz.pinned (.plain (OpenSpec.upto listingOneSpec)) listingOneUptoCard

/-- THE SECOND FORM's CARD OF 'rondeaulaw10.ListingLines'. -/
def listingLinesUptoCard : Claim7 := { stood := { row := listingLinesUptoRow, standIns := [], harness := (true, "dbab0c56ccb18c119e6fe29ce3e4fb596a873aa898b624b687d98423ad961ffe"), looks := true }, kinds := [], alts := [], laidByText := true, laidKinds := [.data, .data, .data, .data, .sentinel, .sentinel, .pinned], laidTests := true, laidLooks := .later }
def ListingLinesUptoCardSaid : Prop := Claim7.holds Tryz.pinned (.plain (OpenSpec.upto listingLinesSpec)) listingLinesUptoCard

/-- THE SECOND FORM's CARD OF 'rondeaulaw10.ListingPlace'. -/
def listingPlaceUptoCard : Claim7 := { stood := { row := listingPlaceUptoRow, standIns := [], harness := (true, "dbab0c56ccb18c119e6fe29ce3e4fb596a873aa898b624b687d98423ad961ffe"), looks := true }, kinds := [], alts := [], laidByText := true, laidKinds := [.data, .data, .data, .data, .sentinel, .sentinel, .pinned], laidTests := true, laidLooks := .later }
def ListingPlaceUptoCardSaid : Prop := Claim7.holds Tryz.pinned (.plain (OpenSpec.upto listingPlaceSpec)) listingPlaceUptoCard
end Rows
end Go.Proofs.YtigdgbdmlejcbaaGreatDoor
