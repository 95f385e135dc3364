/-
  DERIVED. GIVEN WITH THE SEED: THE CARDS: each row of YtgljlgchfahjdaaGreatDoorRows.lean that lists a variable, with what it lists TIED to the program's text (the seventh form; the later family's looks); each row that meets fmt, with fmt's text TOLD by the authors' own Lean function (tested against real Go, not proved from fmt's source: count such statements apart). THE CARD IS WHAT COUNTS. Prove the row's statement (the work); the ties are given (YtgljlgchfahjdaaGreatDoorTie.lean); close each card by the builder's one call (the guide's Derived/Test/ToyasCard.lean, 'card_holds'). Laid BY PROGRAM, IN A SANDBOX (cutbox-door.mjs). By AI agents, Wed Nov 11 2026. No macro, syntax, notation, axiom, sorry.
-/
import Derived.Test.YtgljlgchfahjdaaGreatDoorRows
import GoSem.ClaimSeven
namespace Go.Proofs.YtgljlgchfahjdaaGreatDoor
namespace Rows

/-- THE TIED CARD OF 'wainwrightlaw21.TurnFits'. -/
def turnFitsCard : Claim7 := { stood := { row := turnFitsRow, standIns := [], harness := (true, "9560d9420e9ba4dfec713f026d597669308c7c369f4b18791ef016eb7d02c6fc"), looks := false }, kinds := [], alts := [], laidByText := true, laidKinds := [.data, .pinned], laidTests := true, laidLooks := .later }
def TurnFitsCardSaid : Prop := Claim7.holds Tryz.pinned (.plain (OpenSpec.ofChange turnFitsSpec)) turnFitsCard

/-- THE SECOND FORM's CARD OF 'wainwrightlaw21.TurnFits'. -/
def turnFitsUptoCard : Claim7 := { stood := { row := turnFitsUptoRow, standIns := [], harness := (true, "9560d9420e9ba4dfec713f026d597669308c7c369f4b18791ef016eb7d02c6fc"), looks := false }, kinds := [], alts := [], laidByText := true, laidKinds := [.data, .pinned], laidTests := true, laidLooks := .later }
def TurnFitsUptoCardSaid : Prop := Claim7.holds Tryz.pinned (.plain (OpenSpec.upto turnFitsSpec)) turnFitsUptoCard
end Rows
end Go.Proofs.YtgljlgchfahjdaaGreatDoor
