/-
  DERIVED. GIVEN WITH THE SEED: THE CARDS: each row of YtiimfeombijaeaaGreatDoorRows.lean that lists a variable, with what it lists TIED to the program's text (the seventh form; the later family's looks); each row that meets fmt, with fmt's text TOLD by the authors' own Lean function (tested against real Go, not proved from fmt's source: count such statements apart). THE CARD IS WHAT COUNTS. Prove the row's statement (the work); the ties are given (YtiimfeombijaeaaGreatDoorTie.lean); close each card by the builder's one call (the guide's Derived/Test/ToyasCard.lean, 'card_holds'). Laid BY PROGRAM, IN A SANDBOX (cutbox-door.mjs). By AI agents, Wed Nov 11 2026. No macro, syntax, notation, axiom, sorry.
-/
import Derived.Test.YtiimfeombijaeaaGreatDoorRows
import GoSem.ClaimSeven
namespace Go.Proofs.YtiimfeombijaeaaGreatDoor
namespace Rows

/-- THE TIED CARD OF 'wainwrightlaw24.DeskNil'. -/
def deskNilCard : Claim7 := { stood := { row := deskNilRow, standIns := [], harness := (true, "3dd21211283bc42d4e8658b03d877007d96ac3c2010828da0842bebc2c2a352a"), looks := false }, kinds := [], alts := [], laidByText := true, laidKinds := [.data, .pinned], laidTests := true, laidLooks := .later }
def DeskNilCardSaid : Prop := Claim7.holds Tryz.pinned (.plain (OpenSpec.ofChange deskNilSpec)) deskNilCard

/-- THE SECOND FORM's CARD OF 'wainwrightlaw24.DeskNil'. -/
def deskNilUptoCard : Claim7 := { stood := { row := deskNilUptoRow, standIns := [], harness := (true, "3dd21211283bc42d4e8658b03d877007d96ac3c2010828da0842bebc2c2a352a"), looks := false }, kinds := [], alts := [], laidByText := true, laidKinds := [.data, .pinned], laidTests := true, laidLooks := .later }
def DeskNilUptoCardSaid : Prop := Claim7.holds Tryz.pinned (.plain (OpenSpec.upto deskNilSpec)) deskNilUptoCard
end Rows
end Go.Proofs.YtiimfeombijaeaaGreatDoor
