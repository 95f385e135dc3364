/-
  DERIVED. GIVEN WITH THE SEED: THE CARDS: each row of YtahjalabhlakaabDoorRows.lean that lists a variable, with what it lists TIED to the program's text (the seventh form; the later family's looks); each row that meets fmt, with fmt's text TOLD by the authors' own Lean function (tested against real Go, not proved from fmt's source: count such statements apart). THE CARD IS WHAT COUNTS. Prove the row's statement (the work); the ties are given (YtahjalabhlakaabDoorTie.lean); close each card by the builder's one call (the guide's Derived/Test/ToyasCard.lean, 'card_holds'). Laid BY PROGRAM, IN A SANDBOX (cutbox-door.mjs). By AI agents, Wed Nov 11 2026. No macro, syntax, notation, axiom, sorry.
-/
import Derived.Test.YtahjalabhlakaabDoorRows
import GoSem.ClaimSeven
namespace Go.Proofs.YtahjalabhlakaabDoor
namespace Rows

/-- THE TIED CARD OF 'wainwrightlaw10.CrownReads'. -/
def crownReadsCard : Claim7 := { stood := { row := crownReadsRow, standIns := [], harness := (true, "f874ad75b18f3077464aa1a2d246e1fcf601b19a9b07b7fe188d3c920cdd66ea"), looks := false }, kinds := [], alts := [], laidByText := true, laidKinds := [.data, .pinned], laidTests := true, laidLooks := .later }
def CrownReadsCardSaid : Prop := Claim7.holds Tryd.pinned (.plain (OpenSpec.ofChange crownReadsSpec)) crownReadsCard

/-- THE TIED CARD OF 'wainwrightlaw10.CrownCards'. -/
def crownCardsCard : Claim7 := { stood := { row := crownCardsRow, standIns := [], harness := (true, "f874ad75b18f3077464aa1a2d246e1fcf601b19a9b07b7fe188d3c920cdd66ea"), looks := false }, kinds := [], alts := [], laidByText := true, laidKinds := [.data, .pinned], laidTests := true, laidLooks := .later }
def CrownCardsCardSaid : Prop := Claim7.holds Tryd.pinned (.plain (OpenSpec.ofChange crownCardsSpec)) crownCardsCard

/-- THE TIED CARD OF 'wainwrightlaw10.CrownWrites'. -/
def crownWritesCard : Claim7 := { stood := { row := crownWritesRow, standIns := [], harness := (true, "f874ad75b18f3077464aa1a2d246e1fcf601b19a9b07b7fe188d3c920cdd66ea"), looks := false }, kinds := [], alts := [], laidByText := true, laidKinds := [.data, .pinned], laidTests := true, laidLooks := .later }
def CrownWritesCardSaid : Prop := Claim7.holds Tryd.pinned (.plain (OpenSpec.ofChange crownWritesSpec)) crownWritesCard

/-- THE TIED CARD OF 'wainwrightlaw10.CrownWay'. -/
def crownWayCard : Claim7 := { stood := { row := crownWayRow, standIns := [], harness := (true, "f874ad75b18f3077464aa1a2d246e1fcf601b19a9b07b7fe188d3c920cdd66ea"), looks := false }, kinds := [], alts := [], laidByText := true, laidKinds := [.data, .pinned], laidTests := true, laidLooks := .later }
def CrownWayCardSaid : Prop := Claim7.holds Tryd.pinned (.plain (OpenSpec.ofChange crownWaySpec)) crownWayCard

/-- THE TIED CARD OF 'wainwrightlaw10.CrownMarks'. -/
def crownMarksCard : Claim7 := { stood := { row := crownMarksRow, standIns := [], harness := (true, "f874ad75b18f3077464aa1a2d246e1fcf601b19a9b07b7fe188d3c920cdd66ea"), looks := false }, kinds := [], alts := [], laidByText := true, laidKinds := [.data, .pinned], laidTests := true, laidLooks := .later }
def CrownMarksCardSaid : Prop := Claim7.holds Tryd.pinned (.plain (OpenSpec.ofChange crownMarksSpec)) crownMarksCard

/-- THE SECOND FORM's CARD OF 'wainwrightlaw10.CrownReads'. -/
def crownReadsUptoCard : Claim7 := { stood := { row := crownReadsUptoRow, standIns := [], harness := (true, "f874ad75b18f3077464aa1a2d246e1fcf601b19a9b07b7fe188d3c920cdd66ea"), looks := false }, kinds := [], alts := [], laidByText := true, laidKinds := [.data, .pinned], laidTests := true, laidLooks := .later }
def CrownReadsUptoCardSaid : Prop := Claim7.holds Tryd.pinned (.plain (OpenSpec.upto crownReadsSpec)) crownReadsUptoCard

/-- THE SECOND FORM's CARD OF 'wainwrightlaw10.CrownCards'. -/
def crownCardsUptoCard : Claim7 := { stood := { row := crownCardsUptoRow, standIns := [], harness := (true, "f874ad75b18f3077464aa1a2d246e1fcf601b19a9b07b7fe188d3c920cdd66ea"), looks := false }, kinds := [], alts := [], laidByText := true, laidKinds := [.data, .pinned], laidTests := true, laidLooks := .later }
def CrownCardsUptoCardSaid : Prop := Claim7.holds Tryd.pinned (.plain (OpenSpec.upto crownCardsSpec)) crownCardsUptoCard

/-- THE SECOND FORM's CARD OF 'wainwrightlaw10.CrownWrites'. -/
def crownWritesUptoCard : Claim7 := { stood := { row := crownWritesUptoRow, standIns := [], harness := (true, "f874ad75b18f3077464aa1a2d246e1fcf601b19a9b07b7fe188d3c920cdd66ea"), looks := false }, kinds := [], alts := [], laidByText := true, laidKinds := [.data, .pinned], laidTests := true, laidLooks := .later }
def CrownWritesUptoCardSaid : Prop := Claim7.holds Tryd.pinned (.plain (OpenSpec.upto crownWritesSpec)) crownWritesUptoCard

/-- THE SECOND FORM's CARD OF 'wainwrightlaw10.CrownWay'. -/
def crownWayUptoCard : Claim7 := { stood := { row := crownWayUptoRow, standIns := [], harness := (true, "f874ad75b18f3077464aa1a2d246e1fcf601b19a9b07b7fe188d3c920cdd66ea"), looks := false }, kinds := [], alts := [], laidByText := true, laidKinds := [.data, .pinned], laidTests := true, laidLooks := .later }
def CrownWayUptoCardSaid : Prop := Claim7.holds Tryd.pinned (.plain (OpenSpec.upto crownWaySpec)) crownWayUptoCard

/-- THE SECOND FORM's CARD OF 'wainwrightlaw10.CrownMarks'. -/
def crownMarksUptoCard : Claim7 := { stood := { row := crownMarksUptoRow, standIns := [], harness := (true, "f874ad75b18f3077464aa1a2d246e1fcf601b19a9b07b7fe188d3c920cdd66ea"), looks := false }, kinds := [], alts := [], laidByText := true, laidKinds := [.data, .pinned], laidTests := true, laidLooks := .later }
def CrownMarksUptoCardSaid : Prop := Claim7.holds Tryd.pinned (.plain (OpenSpec.upto crownMarksSpec)) crownMarksUptoCard
end Rows
end Go.Proofs.YtahjalabhlakaabDoor
