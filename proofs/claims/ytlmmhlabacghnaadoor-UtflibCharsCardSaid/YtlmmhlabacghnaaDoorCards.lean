/-
  DERIVED. GIVEN WITH THE SEED: THE CARDS: each row of YtlmmhlabacghnaaDoorRows.lean that lists a variable, with what it lists TIED to the program's text (the seventh form; the later family's looks); each row that meets fmt, with fmt's text TOLD by the authors' own Lean function (tested against real Go, not proved from fmt's source: count such statements apart). THE CARD IS WHAT COUNTS. Prove the row's statement (the work); the ties are given (YtlmmhlabacghnaaDoorTie.lean); close each card by the builder's one call (the guide's Derived/Test/ToyasCard.lean, 'card_holds'). Laid BY PROGRAM, IN A SANDBOX (cutbox-door.mjs). By AI agents, Wed Nov 11 2026. No macro, syntax, notation, axiom, sorry.
-/
import Derived.Test.YtlmmhlabacghnaaDoorRows
import GoSem.ClaimSeven
namespace Go.Proofs.YtlmmhlabacghnaaDoor
namespace Rows

/-- THE TIED CARD OF 'trestlelaw01.RunesCodes'. -/
def runesCodesCard : Claim7 := { stood := { row := runesCodesRow, standIns := [], harness := (true, "253e8d578300ede0fd28e14314f2dad6b83c5172b3ee17d6efbd4d5dd13f2d47"), looks := false }, kinds := [], alts := [], laidByText := true, laidKinds := [.data, .pinned], laidTests := true, laidLooks := .later }
def RunesCodesCardSaid : Prop := Claim7.holds Tryd.pinned (.plain (OpenSpec.ofChange runesCodesSpec)) runesCodesCard

/-- THE TIED CARD OF 'trestlelaw01.RunesPlaces'. -/
def runesPlacesCard : Claim7 := { stood := { row := runesPlacesRow, standIns := [], harness := (true, "253e8d578300ede0fd28e14314f2dad6b83c5172b3ee17d6efbd4d5dd13f2d47"), looks := false }, kinds := [], alts := [], laidByText := true, laidKinds := [.data, .pinned], laidTests := true, laidLooks := .later }
def RunesPlacesCardSaid : Prop := Claim7.holds Tryd.pinned (.plain (OpenSpec.ofChange runesPlacesSpec)) runesPlacesCard

/-- THE TIED CARD OF 'trestlelaw01.RunesWhole'. -/
def runesWholeCard : Claim7 := { stood := { row := runesWholeRow, standIns := [], harness := (true, "253e8d578300ede0fd28e14314f2dad6b83c5172b3ee17d6efbd4d5dd13f2d47"), looks := false }, kinds := [], alts := [], laidByText := true, laidKinds := [.data, .pinned], laidTests := true, laidLooks := .later }
def RunesWholeCardSaid : Prop := Claim7.holds Tryd.pinned (.plain (OpenSpec.ofChange runesWholeSpec)) runesWholeCard

/-- THE TIED CARD OF 'trestlelaw17.UtflibChars'. -/
def utflibCharsCard : Claim7 := { stood := { row := utflibCharsRow, standIns := [], harness := (true, "253e8d578300ede0fd28e14314f2dad6b83c5172b3ee17d6efbd4d5dd13f2d47"), looks := false }, kinds := [], alts := [], laidByText := true, laidKinds := [.data, .pinned], laidTests := true, laidLooks := .later }
def UtflibCharsCardSaid : Prop := Claim7.holds Tryd.pinned (.plain (OpenSpec.ofChange utflibCharsSpec)) utflibCharsCard

/-- THE TIED CARD OF 'trestlelaw17.UtflibOffsets'. -/
def utflibOffsetsCard : Claim7 := { stood := { row := utflibOffsetsRow, standIns := [], harness := (true, "253e8d578300ede0fd28e14314f2dad6b83c5172b3ee17d6efbd4d5dd13f2d47"), looks := false }, kinds := [], alts := [], laidByText := true, laidKinds := [.data, .pinned], laidTests := true, laidLooks := .later }
def UtflibOffsetsCardSaid : Prop := Claim7.holds Tryd.pinned (.plain (OpenSpec.ofChange utflibOffsetsSpec)) utflibOffsetsCard

/-- THE TIED CARD OF 'trestlelaw17.UtflibParts'. -/
def utflibPartsCard : Claim7 := { stood := { row := utflibPartsRow, standIns := [], harness := (true, "253e8d578300ede0fd28e14314f2dad6b83c5172b3ee17d6efbd4d5dd13f2d47"), looks := false }, kinds := [], alts := [], laidByText := true, laidKinds := [.data, .pinned], laidTests := true, laidLooks := .later }
def UtflibPartsCardSaid : Prop := Claim7.holds Tryd.pinned (.plain (OpenSpec.ofChange utflibPartsSpec)) utflibPartsCard

/-- THE TIED CARD OF 'trestlelaw17.UtflibBack'. -/
def utflibBackCard : Claim7 := { stood := { row := utflibBackRow, standIns := [], harness := (true, "253e8d578300ede0fd28e14314f2dad6b83c5172b3ee17d6efbd4d5dd13f2d47"), looks := false }, kinds := [], alts := [], laidByText := true, laidKinds := [.data, .pinned], laidTests := true, laidLooks := .later }
def UtflibBackCardSaid : Prop := Claim7.holds Tryd.pinned (.plain (OpenSpec.ofChange utflibBackSpec)) utflibBackCard

/-- THE TIED CARD OF 'trestlelaw17.UtflibCounts'. -/
def utflibCountsCard : Claim7 := { stood := { row := utflibCountsRow, standIns := [], harness := (true, "253e8d578300ede0fd28e14314f2dad6b83c5172b3ee17d6efbd4d5dd13f2d47"), looks := false }, kinds := [], alts := [], laidByText := true, laidKinds := [.data, .pinned], laidTests := true, laidLooks := .later }
def UtflibCountsCardSaid : Prop := Claim7.holds Tryd.pinned (.plain (OpenSpec.ofChange utflibCountsSpec)) utflibCountsCard

/-- THE TIED CARD OF 'trestlelaw17.UtflibOne'. -/
def utflibOneCard : Claim7 := { stood := { row := utflibOneRow, standIns := [], harness := (true, "253e8d578300ede0fd28e14314f2dad6b83c5172b3ee17d6efbd4d5dd13f2d47"), looks := false }, kinds := [], alts := [], laidByText := true, laidKinds := [.data, .pinned], laidTests := true, laidLooks := .later }
def UtflibOneCardSaid : Prop := Claim7.holds Tryd.pinned (.plain (OpenSpec.ofChange utflibOneSpec)) utflibOneCard

/-- THE TIED CARD OF 'trestlelaw17.UtflibValid'. -/
def utflibValidCard : Claim7 := { stood := { row := utflibValidRow, standIns := [], harness := (true, "253e8d578300ede0fd28e14314f2dad6b83c5172b3ee17d6efbd4d5dd13f2d47"), looks := false }, kinds := [], alts := [], laidByText := true, laidKinds := [.data, .pinned], laidTests := true, laidLooks := .later }
def UtflibValidCardSaid : Prop := Claim7.holds Tryd.pinned (.plain (OpenSpec.ofChange utflibValidSpec)) utflibValidCard

/-- THE SECOND FORM's CARD OF 'trestlelaw01.RunesCodes'. -/
def runesCodesUptoCard : Claim7 := { stood := { row := runesCodesUptoRow, standIns := [], harness := (true, "253e8d578300ede0fd28e14314f2dad6b83c5172b3ee17d6efbd4d5dd13f2d47"), looks := false }, kinds := [], alts := [], laidByText := true, laidKinds := [.data, .pinned], laidTests := true, laidLooks := .later }
def RunesCodesUptoCardSaid : Prop := Claim7.holds Tryd.pinned (.plain (OpenSpec.upto runesCodesSpec)) runesCodesUptoCard

/-- THE SECOND FORM's CARD OF 'trestlelaw01.RunesPlaces'. -/
def runesPlacesUptoCard : Claim7 := { stood := { row := runesPlacesUptoRow, standIns := [], harness := (true, "253e8d578300ede0fd28e14314f2dad6b83c5172b3ee17d6efbd4d5dd13f2d47"), looks := false }, kinds := [], alts := [], laidByText := true, laidKinds := [.data, .pinned], laidTests := true, laidLooks := .later }
def RunesPlacesUptoCardSaid : Prop := Claim7.holds Tryd.pinned (.plain (OpenSpec.upto runesPlacesSpec)) runesPlacesUptoCard

/-- THE SECOND FORM's CARD OF 'trestlelaw01.RunesWhole'. -/
def runesWholeUptoCard : Claim7 := { stood := { row := runesWholeUptoRow, standIns := [], harness := (true, "253e8d578300ede0fd28e14314f2dad6b83c5172b3ee17d6efbd4d5dd13f2d47"), looks := false }, kinds := [], alts := [], laidByText := true, laidKinds := [.data, .pinned], laidTests := true, laidLooks := .later }
def RunesWholeUptoCardSaid : Prop := Claim7.holds Tryd.pinned (.plain (OpenSpec.upto runesWholeSpec)) runesWholeUptoCard

/-- THE SECOND FORM's CARD OF 'trestlelaw17.UtflibChars'. -/
def utflibCharsUptoCard : Claim7 := { stood := { row := utflibCharsUptoRow, standIns := [], harness := (true, "253e8d578300ede0fd28e14314f2dad6b83c5172b3ee17d6efbd4d5dd13f2d47"), looks := false }, kinds := [], alts := [], laidByText := true, laidKinds := [.data, .pinned], laidTests := true, laidLooks := .later }
def UtflibCharsUptoCardSaid : Prop := Claim7.holds Tryd.pinned (.plain (OpenSpec.upto utflibCharsSpec)) utflibCharsUptoCard

/-- THE SECOND FORM's CARD OF 'trestlelaw17.UtflibOffsets'. -/
def utflibOffsetsUptoCard : Claim7 := { stood := { row := utflibOffsetsUptoRow, standIns := [], harness := (true, "253e8d578300ede0fd28e14314f2dad6b83c5172b3ee17d6efbd4d5dd13f2d47"), looks := false }, kinds := [], alts := [], laidByText := true, laidKinds := [.data, .pinned], laidTests := true, laidLooks := .later }
def UtflibOffsetsUptoCardSaid : Prop := Claim7.holds Tryd.pinned (.plain (OpenSpec.upto utflibOffsetsSpec)) utflibOffsetsUptoCard

/-- THE SECOND FORM's CARD OF 'trestlelaw17.UtflibParts'. -/
def utflibPartsUptoCard : Claim7 := { stood := { row := utflibPartsUptoRow, standIns := [], harness := (true, "253e8d578300ede0fd28e14314f2dad6b83c5172b3ee17d6efbd4d5dd13f2d47"), looks := false }, kinds := [], alts := [], laidByText := true, laidKinds := [.data, .pinned], laidTests := true, laidLooks := .later }
def UtflibPartsUptoCardSaid : Prop := Claim7.holds Tryd.pinned (.plain (OpenSpec.upto utflibPartsSpec)) utflibPartsUptoCard

/-- THE SECOND FORM's CARD OF 'trestlelaw17.UtflibBack'. -/
def utflibBackUptoCard : Claim7 := { stood := { row := utflibBackUptoRow, standIns := [], harness := (true, "253e8d578300ede0fd28e14314f2dad6b83c5172b3ee17d6efbd4d5dd13f2d47"), looks := false }, kinds := [], alts := [], laidByText := true, laidKinds := [.data, .pinned], laidTests := true, laidLooks := .later }
def UtflibBackUptoCardSaid : Prop := Claim7.holds Tryd.pinned (.plain (OpenSpec.upto utflibBackSpec)) utflibBackUptoCard

/-- THE SECOND FORM's CARD OF 'trestlelaw17.UtflibCounts'. -/
def utflibCountsUptoCard : Claim7 := { stood := { row := utflibCountsUptoRow, standIns := [], harness := (true, "253e8d578300ede0fd28e14314f2dad6b83c5172b3ee17d6efbd4d5dd13f2d47"), looks := false }, kinds := [], alts := [], laidByText := true, laidKinds := [.data, .pinned], laidTests := true, laidLooks := .later }
def UtflibCountsUptoCardSaid : Prop := Claim7.holds Tryd.pinned (.plain (OpenSpec.upto utflibCountsSpec)) utflibCountsUptoCard

/-- THE SECOND FORM's CARD OF 'trestlelaw17.UtflibOne'. -/
def utflibOneUptoCard : Claim7 := { stood := { row := utflibOneUptoRow, standIns := [], harness := (true, "253e8d578300ede0fd28e14314f2dad6b83c5172b3ee17d6efbd4d5dd13f2d47"), looks := false }, kinds := [], alts := [], laidByText := true, laidKinds := [.data, .pinned], laidTests := true, laidLooks := .later }
def UtflibOneUptoCardSaid : Prop := Claim7.holds Tryd.pinned (.plain (OpenSpec.upto utflibOneSpec)) utflibOneUptoCard

/-- THE SECOND FORM's CARD OF 'trestlelaw17.UtflibValid'. -/
def utflibValidUptoCard : Claim7 := { stood := { row := utflibValidUptoRow, standIns := [], harness := (true, "253e8d578300ede0fd28e14314f2dad6b83c5172b3ee17d6efbd4d5dd13f2d47"), looks := false }, kinds := [], alts := [], laidByText := true, laidKinds := [.data, .pinned], laidTests := true, laidLooks := .later }
def UtflibValidUptoCardSaid : Prop := Claim7.holds Tryd.pinned (.plain (OpenSpec.upto utflibValidSpec)) utflibValidUptoCard
end Rows
end Go.Proofs.YtlmmhlabacghnaaDoor
