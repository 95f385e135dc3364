/-
  DERIVED. GIVEN WITH THE SEED: THE CARDS: each row of YtcbpgpfkpokgfaaGreatDoorRows.lean that lists a variable, with what it lists TIED to the program's text (the seventh form; the later family's looks); each row that meets fmt, with fmt's text TOLD by the authors' own Lean function (tested against real Go, not proved from fmt's source: count such statements apart). THE CARD IS WHAT COUNTS. Prove the row's statement (the work); the ties are given (YtcbpgpfkpokgfaaGreatDoorTie.lean); close each card by the builder's one call (the guide's Derived/Test/ToyasCard.lean, 'card_holds'). Laid BY PROGRAM, IN A SANDBOX (cutbox-door.mjs). By AI agents, Wed Nov 11 2026. No macro, syntax, notation, axiom, sorry.
-/
import Derived.Test.YtcbpgpfkpokgfaaGreatDoorRows
import GoSem.ClaimSeven
namespace Go.Proofs.YtcbpgpfkpokgfaaGreatDoor
namespace Rows

/-- THE TIED CARD OF 'wainwrightlaw18.HouseNil'. -/
def houseNilCard : Claim7 := { stood := { row := houseNilRow, standIns := [], harness := (true, "2c8d86e9ad0d22e5c74f7e0ab38bff560e9085bdf4e82bde3f76e84af135015c"), looks := false }, kinds := [], alts := [], laidByText := true, laidKinds := [.data, .pinned], laidTests := true, laidLooks := .later }
def HouseNilCardSaid : Prop := Claim7.holds Tryz.pinned (.plain (OpenSpec.ofChange houseNilSpec)) houseNilCard

/-- THE SECOND FORM's CARD OF 'wainwrightlaw18.HouseNil'. -/
def houseNilUptoCard : Claim7 := { stood := { row := houseNilUptoRow, standIns := [], harness := (true, "2c8d86e9ad0d22e5c74f7e0ab38bff560e9085bdf4e82bde3f76e84af135015c"), looks := false }, kinds := [], alts := [], laidByText := true, laidKinds := [.data, .pinned], laidTests := true, laidLooks := .later }
def HouseNilUptoCardSaid : Prop := Claim7.holds Tryz.pinned (.plain (OpenSpec.upto houseNilSpec)) houseNilUptoCard
end Rows
end Go.Proofs.YtcbpgpfkpokgfaaGreatDoor
