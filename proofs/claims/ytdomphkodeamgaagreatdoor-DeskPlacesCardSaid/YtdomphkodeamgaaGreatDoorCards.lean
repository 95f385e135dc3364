/-
  DERIVED. GIVEN WITH THE SEED: THE CARDS: each row of YtdomphkodeamgaaGreatDoorRows.lean that lists a variable, with what it lists TIED to the program's text (the seventh form; the later family's looks); each row that meets fmt, with fmt's text TOLD by the authors' own Lean function (tested against real Go, not proved from fmt's source: count such statements apart). THE CARD IS WHAT COUNTS. Prove the row's statement (the work); the ties are given (YtdomphkodeamgaaGreatDoorTie.lean); close each card by the builder's one call (the guide's Derived/Test/ToyasCard.lean, 'card_holds'). Laid BY PROGRAM, IN A SANDBOX (cutbox-door.mjs). By AI agents, Wed Nov 11 2026. No macro, syntax, notation, axiom, sorry.
-/
import Derived.Test.YtdomphkodeamgaaGreatDoorRows
import GoSem.ClaimSeven
namespace Go.Proofs.YtdomphkodeamgaaGreatDoor
namespace Rows

/-- THE TIED CARD OF 'wainwrightlaw24.DeskPlaces'. -/
def deskPlacesCard : Claim7 := { stood := { row := deskPlacesRow, standIns := [], harness := (true, "d9db704d59265d53fe1d7896f4222db522af4778cc1d12b44bdaecdfe3abc3a3"), looks := false }, kinds := [], alts := [], laidByText := true, laidKinds := [.data, .pinned], laidTests := true, laidLooks := .later }
def DeskPlacesCardSaid : Prop := Claim7.holds Tryz.pinned (.plain (OpenSpec.ofChange deskPlacesSpec)) deskPlacesCard

/-- THE SECOND FORM's CARD OF 'wainwrightlaw24.DeskPlaces'. -/
def deskPlacesUptoCard : Claim7 := { stood := { row := deskPlacesUptoRow, standIns := [], harness := (true, "d9db704d59265d53fe1d7896f4222db522af4778cc1d12b44bdaecdfe3abc3a3"), looks := false }, kinds := [], alts := [], laidByText := true, laidKinds := [.data, .pinned], laidTests := true, laidLooks := .later }
def DeskPlacesUptoCardSaid : Prop := Claim7.holds Tryz.pinned (.plain (OpenSpec.upto deskPlacesSpec)) deskPlacesUptoCard
end Rows
end Go.Proofs.YtdomphkodeamgaaGreatDoor
