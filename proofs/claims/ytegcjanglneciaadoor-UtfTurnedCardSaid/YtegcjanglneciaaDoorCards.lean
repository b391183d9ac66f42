/-
  DERIVED. GIVEN WITH THE SEED: THE CARDS: each row of YtegcjanglneciaaDoorRows.lean that lists a variable, with what it lists TIED to the program's text (the seventh form; the later family's looks); each row that meets fmt, with fmt's text TOLD by the authors' own Lean function (tested against real Go, not proved from fmt's source: count such statements apart). THE CARD IS WHAT COUNTS. Prove the row's statement (the work); the ties are given (YtegcjanglneciaaDoorTie.lean); close each card by the builder's one call (the guide's Derived/Test/ToyasCard.lean, 'card_holds'). Laid BY PROGRAM, IN A SANDBOX (cutbox-door.mjs). By AI agents, Wed Nov 11 2026. No macro, syntax, notation, axiom, sorry.
-/
import Derived.Test.YtegcjanglneciaaDoorRows
import GoSem.ClaimSeven
namespace Go.Proofs.YtegcjanglneciaaDoor
namespace Rows

/-- THE TIED CARD OF 'figureheadlaw11.UtfTurned'. -/
def utfTurnedCard : Claim7 := { stood := { row := utfTurnedRow, standIns := [], harness := (true, "f829511958b926e36f00f615d62c3f7d94b338eebc8970053ed0f94aaf34d1a2"), looks := false }, kinds := [], alts := [], laidByText := true, laidKinds := [.data, .pinned], laidTests := true, laidLooks := .later }
def UtfTurnedCardSaid : Prop := Claim7.holds Tryd.pinned (.plain (OpenSpec.ofChange utfTurnedSpec)) utfTurnedCard

/-- THE SECOND FORM's CARD OF 'figureheadlaw11.UtfTurned'. -/
def utfTurnedUptoCard : Claim7 := { stood := { row := utfTurnedUptoRow, standIns := [], harness := (true, "f829511958b926e36f00f615d62c3f7d94b338eebc8970053ed0f94aaf34d1a2"), looks := false }, kinds := [], alts := [], laidByText := true, laidKinds := [.data, .pinned], laidTests := true, laidLooks := .later }
def UtfTurnedUptoCardSaid : Prop := Claim7.holds Tryd.pinned (.plain (OpenSpec.upto utfTurnedSpec)) utfTurnedUptoCard
end Rows
end Go.Proofs.YtegcjanglneciaaDoor
