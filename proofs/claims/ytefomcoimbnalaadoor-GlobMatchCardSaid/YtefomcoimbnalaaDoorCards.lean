/-
  DERIVED. GIVEN WITH THE SEED: THE CARDS: each row of YtefomcoimbnalaaDoorRows.lean that lists a variable, with what it lists TIED to the program's text (the seventh form; the later family's looks); each row that meets fmt, with fmt's text TOLD by the authors' own Lean function (tested against real Go, not proved from fmt's source: count such statements apart). THE CARD IS WHAT COUNTS. Prove the row's statement (the work); the ties are given (YtefomcoimbnalaaDoorTie.lean); close each card by the builder's one call (the guide's Derived/Test/ToyasCard.lean, 'card_holds'). Laid BY PROGRAM, IN A SANDBOX (cutbox-door.mjs). By AI agents, Wed Nov 11 2026. No macro, syntax, notation, axiom, sorry.
-/
import Derived.Test.YtefomcoimbnalaaDoorRows
import GoSem.ClaimSeven
namespace Go.Proofs.YtefomcoimbnalaaDoor
namespace Rows

/-- THE TIED CARD OF 'wainwrightlaw28.GlobMatch'. -/
def globMatchCard : Claim7 := { stood := { row := globMatchRow, standIns := [], harness := (true, "1915cc49614fd7598bcf7187684ce9bff7b409f7540697ef3fc358182c69af7e"), looks := false }, kinds := [], alts := [], laidByText := true, laidKinds := [.data, .pinned], laidTests := true, laidLooks := .later }
def GlobMatchCardSaid : Prop := Claim7.holds Tryd.pinned (.plain (OpenSpec.ofChange globMatchSpec)) globMatchCard

/-- THE TIED CARD OF 'wainwrightlaw28.GlobJoins'. -/
def globJoinsCard : Claim7 := { stood := { row := globJoinsRow, standIns := [], harness := (true, "1915cc49614fd7598bcf7187684ce9bff7b409f7540697ef3fc358182c69af7e"), looks := false }, kinds := [], alts := [], laidByText := true, laidKinds := [.data, .pinned], laidTests := true, laidLooks := .later }
def GlobJoinsCardSaid : Prop := Claim7.holds Tryd.pinned (.plain (OpenSpec.ofChange globJoinsSpec)) globJoinsCard

/-- THE TIED CARD OF 'wainwrightlaw28.GlobPlain'. -/
def globPlainCard : Claim7 := { stood := { row := globPlainRow, standIns := [], harness := (true, "1915cc49614fd7598bcf7187684ce9bff7b409f7540697ef3fc358182c69af7e"), looks := false }, kinds := [], alts := [], laidByText := true, laidKinds := [.data, .pinned], laidTests := true, laidLooks := .later }
def GlobPlainCardSaid : Prop := Claim7.holds Tryd.pinned (.plain (OpenSpec.ofChange globPlainSpec)) globPlainCard

/-- THE SECOND FORM's CARD OF 'wainwrightlaw28.GlobMatch'. -/
def globMatchUptoCard : Claim7 := { stood := { row := globMatchUptoRow, standIns := [], harness := (true, "1915cc49614fd7598bcf7187684ce9bff7b409f7540697ef3fc358182c69af7e"), looks := false }, kinds := [], alts := [], laidByText := true, laidKinds := [.data, .pinned], laidTests := true, laidLooks := .later }
def GlobMatchUptoCardSaid : Prop := Claim7.holds Tryd.pinned (.plain (OpenSpec.upto globMatchSpec)) globMatchUptoCard

/-- THE SECOND FORM's CARD OF 'wainwrightlaw28.GlobJoins'. -/
def globJoinsUptoCard : Claim7 := { stood := { row := globJoinsUptoRow, standIns := [], harness := (true, "1915cc49614fd7598bcf7187684ce9bff7b409f7540697ef3fc358182c69af7e"), looks := false }, kinds := [], alts := [], laidByText := true, laidKinds := [.data, .pinned], laidTests := true, laidLooks := .later }
def GlobJoinsUptoCardSaid : Prop := Claim7.holds Tryd.pinned (.plain (OpenSpec.upto globJoinsSpec)) globJoinsUptoCard

/-- THE SECOND FORM's CARD OF 'wainwrightlaw28.GlobPlain'. -/
def globPlainUptoCard : Claim7 := { stood := { row := globPlainUptoRow, standIns := [], harness := (true, "1915cc49614fd7598bcf7187684ce9bff7b409f7540697ef3fc358182c69af7e"), looks := false }, kinds := [], alts := [], laidByText := true, laidKinds := [.data, .pinned], laidTests := true, laidLooks := .later }
def GlobPlainUptoCardSaid : Prop := Claim7.holds Tryd.pinned (.plain (OpenSpec.upto globPlainSpec)) globPlainUptoCard
end Rows
end Go.Proofs.YtefomcoimbnalaaDoor
