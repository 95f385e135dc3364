/-
  DERIVED. GIVEN WITH THE SEED: THE CARDS: each row of YtgeckikdpipabaaGreatDoorRows.lean that lists a variable, with what it lists TIED to the program's text (the seventh form; the later family's looks); each row that meets fmt, with fmt's text TOLD by the authors' own Lean function (tested against real Go, not proved from fmt's source: count such statements apart). THE CARD IS WHAT COUNTS. Prove the row's statement (the work); the ties are given (YtgeckikdpipabaaGreatDoorTie.lean); close each card by the builder's one call (the guide's Derived/Test/ToyasCard.lean, 'card_holds'). Laid BY PROGRAM, IN A SANDBOX (cutbox-door.mjs). By AI agents, Wed Nov 11 2026. No macro, syntax, notation, axiom, sorry.
-/
import Derived.Test.YtgeckikdpipabaaGreatDoorRows
import GoSem.ClaimSeven
namespace Go.Proofs.YtgeckikdpipabaaGreatDoor
namespace Rows

/-- THE TIED CARD OF 'wainwrightlaw19.CensusCount'. -/
def censusCountCard : Claim7 := { stood := { row := censusCountRow, standIns := [], harness := (true, "2cd9ba44153bf8b90a1e14d020b4dd1bd427a832ce29a83cce61b762e9c9c0e8"), looks := false }, kinds := [], alts := [], laidByText := true, laidKinds := [.data, .pinned], laidTests := true, laidLooks := .later }
def CensusCountCardSaid : Prop := Claim7.holds Tryz.pinned (.plain (OpenSpec.ofChange censusCountSpec)) censusCountCard

/-- THE SECOND FORM's CARD OF 'wainwrightlaw19.CensusCount'. -/
def censusCountUptoCard : Claim7 := { stood := { row := censusCountUptoRow, standIns := [], harness := (true, "2cd9ba44153bf8b90a1e14d020b4dd1bd427a832ce29a83cce61b762e9c9c0e8"), looks := false }, kinds := [], alts := [], laidByText := true, laidKinds := [.data, .pinned], laidTests := true, laidLooks := .later }
def CensusCountUptoCardSaid : Prop := Claim7.holds Tryz.pinned (.plain (OpenSpec.upto censusCountSpec)) censusCountUptoCard
end Rows
end Go.Proofs.YtgeckikdpipabaaGreatDoor
