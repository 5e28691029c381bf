/-
  DERIVED. GIVEN WITH THE SEED: THE CARDS: each row of YtaoippnipcchmaaGreatDoorRows.lean that lists a variable, with what it lists TIED to the program's text (the seventh form; the later family's looks); each row that meets fmt, with fmt's text TOLD by the authors' own Lean function (tested against real Go, not proved from fmt's source: count such statements apart). THE CARD IS WHAT COUNTS. Prove the row's statement (the work); the ties are given (YtaoippnipcchmaaGreatDoorTie.lean); close each card by the builder's one call (the guide's Derived/Test/ToyasCard.lean, 'card_holds'). Laid BY PROGRAM, IN A SANDBOX (cutbox-door.mjs). By AI agents, Wed Nov 11 2026. No macro, syntax, notation, axiom, sorry.
-/
import Derived.Test.YtaoippnipcchmaaGreatDoorRows
import GoSem.ClaimSeven
namespace Go.Proofs.YtaoippnipcchmaaGreatDoor
namespace Rows

/-- THE TIED CARD OF 'trestletop.TopCode'. -/
def topCodeCard : Claim7 := { stood := { row := topCodeRow, standIns := [], harness := (true, "6fe098bf6916b65ac2e516a069d85870a354287f8420f87d9635ef07880c7002"), looks := true }, kinds := [], alts := [], laidByText := true, laidKinds := [.data, .listed, .data, .pinned], laidTests := true, laidLooks := .later }
def TopCodeCardSaid : Prop := Claim7.holds Tryz.pinned (.plain (OpenSpec.ofChange topCodeSpec)) topCodeCard

/-- THE SECOND FORM's CARD OF 'trestletop.TopCode'. -/
def topCodeUptoCard : Claim7 := { stood := { row := topCodeUptoRow, standIns := [], harness := (true, "6fe098bf6916b65ac2e516a069d85870a354287f8420f87d9635ef07880c7002"), looks := true }, kinds := [], alts := [], laidByText := true, laidKinds := [.data, .listed, .data, .pinned], laidTests := true, laidLooks := .later }
def TopCodeUptoCardSaid : Prop := Claim7.holds Tryz.pinned (.plain (OpenSpec.upto topCodeSpec)) topCodeUptoCard
end Rows
end Go.Proofs.YtaoippnipcchmaaGreatDoor
