/-
  No cell of these rows narrows 'for every input' (looked for: loops, veiled, ifaces, maps, wideKeys, modest, calm, conditions, laid).
  DERIVED. THE GIVEN ROWS OF THIS SEAT. 5 by the template 'for every input the law returns true; each argument reads behind the call as it read before'; 0 by the template 'total and deterministic' (their statements: YtgigoogekimgkaaTotals.lean).
  GIVEN WITH THE SEED: the statements are not yours to turn. If you find one false, say at which input.
  Laid BY PROGRAM, IN A SANDBOX (cutbox-rows.mjs): the forced cells as the released guide's own fill.sh prints them over the translation 95baf2721a96f04f… (all of the seat's roots in one cut). By AI agents, Wed Nov 11 2026. No macro, syntax, notation, axiom, sorry.
-/
import Derived.Test.YtgigoogekimgkaaChecked
import GoSem.Claim
import GoSem.ClaimJoined
import GoSem.ClaimMapViews
import Derived.JoinedTies
import Derived.KernelRfl
namespace Go.Proofs.Ytgigoogekimgkaa
/- THE CELL 'sum', in the pinned program and in every row, IS THE sha256 OF THE DUMP (.gsa) THAT YtgigoogekimgkaaProg.lean LOADS. Nothing in Lean hashes anything: it is a label: what it is worth is what the hold of that sum in a sandbox is worth. -/
noncomputable def Try.pinned : Pinned := { name := "ytgigoogekimgkaa", sum := "95baf2721a96f04fcd9f90917aaa59b7f60f247471800840a641146c037b44a1", checked := Try.checked }
namespace Rows
def none {H : Type} : Left H := { results := [], args := [] }

/-- 'wainwrightlaw09.CardsWrite': WHATEVER THE INPUT: true; the input reads as it did. -/
def cardsWriteSpec : ChangeSpec := { name := "cardsWrite", fn := fun _ => fun
  | [d] => { results := [.lit (.bool true)], args := [d] }
  | _ => none }
def cardsWriteRow : OpenClaim := { program := "ytgigoogekimgkaa", sum := "95baf2721a96f04fcd9f90917aaa59b7f60f247471800840a641146c037b44a1", func := "wainwright/wainwrightlaw09.CardsWrite", spec := "cardsWrite", inPlace := ["internal/abi.NoEscape", "internal/bytealg.MakeNoZero"], unfollowed := true, recurses := true, apart := false }
def CardsWriteSaid : Prop := cardsWriteRow.holds Try.pinned (OpenSpec.ofChange cardsWriteSpec)

/-- ITS FALSE NEIGHBOUR: 'it returns false'. Refute it at one input. -/
def cardsWriteWrong : ChangeSpec := { name := "cardsWrite", fn := fun _ => fun
  | [d] => { results := [.lit (.bool false)], args := [d] }
  | _ => none }
def CardsWriteWrongFalsely : Prop := cardsWriteRow.holds Try.pinned (OpenSpec.ofChange cardsWriteWrong)

/-- 'wainwrightlaw09.CardsRead': WHATEVER THE INPUT: true; the input reads as it did. -/
def cardsReadSpec : ChangeSpec := { name := "cardsRead", fn := fun _ => fun
  | [d] => { results := [.lit (.bool true)], args := [d] }
  | _ => none }
def cardsReadRow : OpenClaim := { program := "ytgigoogekimgkaa", sum := "95baf2721a96f04fcd9f90917aaa59b7f60f247471800840a641146c037b44a1", func := "wainwright/wainwrightlaw09.CardsRead", spec := "cardsRead", inPlace := ["internal/abi.NoEscape", "internal/bytealg.MakeNoZero"], unfollowed := true, recurses := true, apart := false }
def CardsReadSaid : Prop := cardsReadRow.holds Try.pinned (OpenSpec.ofChange cardsReadSpec)

/-- ITS FALSE NEIGHBOUR: 'it returns false'. Refute it at one input. -/
def cardsReadWrong : ChangeSpec := { name := "cardsRead", fn := fun _ => fun
  | [d] => { results := [.lit (.bool false)], args := [d] }
  | _ => none }
def CardsReadWrongFalsely : Prop := cardsReadRow.holds Try.pinned (OpenSpec.ofChange cardsReadWrong)

/-- 'wainwrightlaw09.CardsBack': WHATEVER THE INPUT: true; the input reads as it did. -/
def cardsBackSpec : ChangeSpec := { name := "cardsBack", fn := fun _ => fun
  | [d1, d2] => { results := [.lit (.bool true)], args := [d1, d2] }
  | _ => none }
def cardsBackRow : OpenClaim := { program := "ytgigoogekimgkaa", sum := "95baf2721a96f04fcd9f90917aaa59b7f60f247471800840a641146c037b44a1", func := "wainwright/wainwrightlaw09.CardsBack", spec := "cardsBack", inPlace := ["internal/abi.NoEscape", "internal/bytealg.MakeNoZero"], unfollowed := true, recurses := true, apart := false }
def CardsBackSaid : Prop := cardsBackRow.holds Try.pinned (OpenSpec.ofChange cardsBackSpec)

/-- ITS FALSE NEIGHBOUR: 'it returns false'. Refute it at one input. -/
def cardsBackWrong : ChangeSpec := { name := "cardsBack", fn := fun _ => fun
  | [d1, d2] => { results := [.lit (.bool false)], args := [d1, d2] }
  | _ => none }
def CardsBackWrongFalsely : Prop := cardsBackRow.holds Try.pinned (OpenSpec.ofChange cardsBackWrong)

/-- 'wainwrightlaw09.CardsSame': WHATEVER THE INPUT: true; the input reads as it did. -/
def cardsSameSpec : ChangeSpec := { name := "cardsSame", fn := fun _ => fun
  | [d1, d2, d3] => { results := [.lit (.bool true)], args := [d1, d2, d3] }
  | _ => none }
def cardsSameRow : OpenClaim := { program := "ytgigoogekimgkaa", sum := "95baf2721a96f04fcd9f90917aaa59b7f60f247471800840a641146c037b44a1", func := "wainwright/wainwrightlaw09.CardsSame", spec := "cardsSame", inPlace := ["internal/abi.NoEscape", "internal/bytealg.MakeNoZero"], unfollowed := true, recurses := true, apart := false }
def CardsSameSaid : Prop := cardsSameRow.holds Try.pinned (OpenSpec.ofChange cardsSameSpec)

/-- ITS FALSE NEIGHBOUR: 'it returns false'. Refute it at one input. -/
def cardsSameWrong : ChangeSpec := { name := "cardsSame", fn := fun _ => fun
  | [d1, d2, d3] => { results := [.lit (.bool false)], args := [d1, d2, d3] }
  | _ => none }
def CardsSameWrongFalsely : Prop := cardsSameRow.holds Try.pinned (OpenSpec.ofChange cardsSameWrong)

/-- 'wainwrightlaw09.CardsPlace': WHATEVER THE INPUT: true; the input reads as it did. -/
def cardsPlaceSpec : ChangeSpec := { name := "cardsPlace", fn := fun _ => fun
  | [d1, d2, d3] => { results := [.lit (.bool true)], args := [d1, d2, d3] }
  | _ => none }
def cardsPlaceRow : OpenClaim := { program := "ytgigoogekimgkaa", sum := "95baf2721a96f04fcd9f90917aaa59b7f60f247471800840a641146c037b44a1", func := "wainwright/wainwrightlaw09.CardsPlace", spec := "cardsPlace", inPlace := ["internal/abi.NoEscape", "internal/bytealg.MakeNoZero"], unfollowed := true, recurses := true, apart := false }
def CardsPlaceSaid : Prop := cardsPlaceRow.holds Try.pinned (OpenSpec.ofChange cardsPlaceSpec)

/-- ITS FALSE NEIGHBOUR: 'it returns false'. Refute it at one input. -/
def cardsPlaceWrong : ChangeSpec := { name := "cardsPlace", fn := fun _ => fun
  | [d1, d2, d3] => { results := [.lit (.bool false)], args := [d1, d2, d3] }
  | _ => none }
def CardsPlaceWrongFalsely : Prop := cardsPlaceRow.holds Try.pinned (OpenSpec.ofChange cardsPlaceWrong)

/- THE SECOND FORM. 'bulk': how many values and letters a reading holds, each counted each time it is reached (what is shared counts as often as it is met; a slice's spare places count too). A statement '..UptoSaid' is the law's where the arguments, and the package variables that the reading takes, are together of bulk at most 1048576: NARROWER than '..Said'. Prove '..Said' where nothing that the law and all that it calls make is longer than what came in: it says more and counts as full. Else prove '..UptoSaid'. A law counts once. -/
mutual
def uptoBulk {H : Type} : DataW H → Nat
  | .lit (.string bytes) => bytes.length + 1
  | .lit _ => 1
  | .nil => 1
  | .ptr d => uptoBulk d + 1
  | .slice elems spare => uptoBulkAll elems + uptoBulkAll spare + 1
  | .agg parts => uptoBulkAll parts + 1
  | .iface _ d => uptoBulk d + 1
  | .map entries => uptoBulkEntries entries + 1
  | .held _ => 1
def uptoBulkAll {H : Type} : List (DataW H) → Nat
  | [] => 0
  | d :: r => uptoBulk d + uptoBulkAll r
def uptoBulkEntries {H : Type} : List (Lit × DataW H) → Nat
  | [] => 0
  | x :: r => uptoBulkEntry x + uptoBulkEntries r
def uptoBulkEntry {H : Type} : Lit × DataW H → Nat
  | (.string bytes, d) => bytes.length + uptoBulk d + 1
  | (_, d) => uptoBulk d + 1
 end
def uptoSmall : (H : Type) → List (DataW H) → Bool := fun _ ds => decide (uptoBulkAll ds ≤ 1048576)
def OpenSpec.upto (s : _root_.Go.ChangeSpec) : _root_.Go.OpenSpec := { _root_.Go.OpenSpec.ofChange s with cond := some uptoSmall }

/-- 'wainwrightlaw09.CardsWrite', WHERE WHAT IT READS IS OF BULK AT MOST 1048576: true; the input reads as it did. -/
def cardsWriteUptoRow : OpenClaim := { program := "ytgigoogekimgkaa", sum := "95baf2721a96f04fcd9f90917aaa59b7f60f247471800840a641146c037b44a1", func := "wainwright/wainwrightlaw09.CardsWrite", spec := "cardsWrite", inPlace := ["internal/abi.NoEscape", "internal/bytealg.MakeNoZero"], unfollowed := true, recurses := true, apart := false, narrowed := true }
def CardsWriteUptoSaid : Prop := cardsWriteUptoRow.holds Try.pinned (OpenSpec.upto cardsWriteSpec)

/-- 'wainwrightlaw09.CardsRead', WHERE WHAT IT READS IS OF BULK AT MOST 1048576: true; the input reads as it did. -/
def cardsReadUptoRow : OpenClaim := { program := "ytgigoogekimgkaa", sum := "95baf2721a96f04fcd9f90917aaa59b7f60f247471800840a641146c037b44a1", func := "wainwright/wainwrightlaw09.CardsRead", spec := "cardsRead", inPlace := ["internal/abi.NoEscape", "internal/bytealg.MakeNoZero"], unfollowed := true, recurses := true, apart := false, narrowed := true }
def CardsReadUptoSaid : Prop := cardsReadUptoRow.holds Try.pinned (OpenSpec.upto cardsReadSpec)

/-- 'wainwrightlaw09.CardsBack', WHERE WHAT IT READS IS OF BULK AT MOST 1048576: true; the input reads as it did. -/
def cardsBackUptoRow : OpenClaim := { program := "ytgigoogekimgkaa", sum := "95baf2721a96f04fcd9f90917aaa59b7f60f247471800840a641146c037b44a1", func := "wainwright/wainwrightlaw09.CardsBack", spec := "cardsBack", inPlace := ["internal/abi.NoEscape", "internal/bytealg.MakeNoZero"], unfollowed := true, recurses := true, apart := false, narrowed := true }
def CardsBackUptoSaid : Prop := cardsBackUptoRow.holds Try.pinned (OpenSpec.upto cardsBackSpec)

/-- 'wainwrightlaw09.CardsSame', WHERE WHAT IT READS IS OF BULK AT MOST 1048576: true; the input reads as it did. -/
def cardsSameUptoRow : OpenClaim := { program := "ytgigoogekimgkaa", sum := "95baf2721a96f04fcd9f90917aaa59b7f60f247471800840a641146c037b44a1", func := "wainwright/wainwrightlaw09.CardsSame", spec := "cardsSame", inPlace := ["internal/abi.NoEscape", "internal/bytealg.MakeNoZero"], unfollowed := true, recurses := true, apart := false, narrowed := true }
def CardsSameUptoSaid : Prop := cardsSameUptoRow.holds Try.pinned (OpenSpec.upto cardsSameSpec)

/-- 'wainwrightlaw09.CardsPlace', WHERE WHAT IT READS IS OF BULK AT MOST 1048576: true; the input reads as it did. -/
def cardsPlaceUptoRow : OpenClaim := { program := "ytgigoogekimgkaa", sum := "95baf2721a96f04fcd9f90917aaa59b7f60f247471800840a641146c037b44a1", func := "wainwright/wainwrightlaw09.CardsPlace", spec := "cardsPlace", inPlace := ["internal/abi.NoEscape", "internal/bytealg.MakeNoZero"], unfollowed := true, recurses := true, apart := false, narrowed := true }
def CardsPlaceUptoSaid : Prop := cardsPlaceUptoRow.holds Try.pinned (OpenSpec.upto cardsPlaceSpec)

end Rows
end Go.Proofs.Ytgigoogekimgkaa
