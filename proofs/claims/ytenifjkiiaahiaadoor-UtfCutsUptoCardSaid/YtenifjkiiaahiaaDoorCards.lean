/-
  DERIVED. GIVEN WITH THE SEED: THE CARDS: each row of YtenifjkiiaahiaaDoorRows.lean that lists a variable, with what it lists TIED to the program's text (the seventh form; the later family's looks); each row that meets fmt, with fmt's text TOLD by the authors' own Lean function (tested against real Go, not proved from fmt's source: count such statements apart). THE CARD IS WHAT COUNTS. Prove the row's statement (the work); the ties are given (YtenifjkiiaahiaaDoorTie.lean); close each card by the builder's one call (the guide's Derived/Test/ToyasCard.lean, 'card_holds'). Laid BY PROGRAM, IN A SANDBOX (cutbox-door.mjs). By AI agents, Wed Nov 11 2026. No macro, syntax, notation, axiom, sorry.
-/
import Derived.Test.YtenifjkiiaahiaaDoorRows
import GoSem.ClaimSeven
namespace Go.Proofs.YtenifjkiiaahiaaDoor
namespace Rows

/-- THE TIED CARD OF 'figureheadlaw11.UtfRunes'. -/
def utfRunesCard : Claim7 := { stood := { row := utfRunesRow, standIns := [], harness := (true, "5038e4b95e17b065d9d73a7de8b1a4aa8a27242f3a06f5d07ba87f1891f215d1"), looks := false }, kinds := [], alts := [], laidByText := true, laidKinds := [.data, .pinned], laidTests := true, laidLooks := .later }
def UtfRunesCardSaid : Prop := Claim7.holds Tryd.pinned (.plain (OpenSpec.ofChange utfRunesSpec)) utfRunesCard

/-- THE TIED CARD OF 'figureheadlaw11.UtfTexts'. -/
def utfTextsCard : Claim7 := { stood := { row := utfTextsRow, standIns := [], harness := (true, "5038e4b95e17b065d9d73a7de8b1a4aa8a27242f3a06f5d07ba87f1891f215d1"), looks := false }, kinds := [], alts := [], laidByText := true, laidKinds := [.data, .pinned], laidTests := true, laidLooks := .later }
def UtfTextsCardSaid : Prop := Claim7.holds Tryd.pinned (.plain (OpenSpec.ofChange utfTextsSpec)) utfTextsCard

/-- THE TIED CARD OF 'figureheadlaw11.UtfJoins'. -/
def utfJoinsCard : Claim7 := { stood := { row := utfJoinsRow, standIns := [], harness := (true, "5038e4b95e17b065d9d73a7de8b1a4aa8a27242f3a06f5d07ba87f1891f215d1"), looks := false }, kinds := [], alts := [], laidByText := true, laidKinds := [.data, .pinned], laidTests := true, laidLooks := .later }
def UtfJoinsCardSaid : Prop := Claim7.holds Tryd.pinned (.plain (OpenSpec.ofChange utfJoinsSpec)) utfJoinsCard

/-- THE TIED CARD OF 'figureheadlaw11.UtfTurned'. -/
def utfTurnedCard : Claim7 := { stood := { row := utfTurnedRow, standIns := [], harness := (true, "5038e4b95e17b065d9d73a7de8b1a4aa8a27242f3a06f5d07ba87f1891f215d1"), looks := false }, kinds := [], alts := [], laidByText := true, laidKinds := [.data, .pinned], laidTests := true, laidLooks := .later }
def UtfTurnedCardSaid : Prop := Claim7.holds Tryd.pinned (.plain (OpenSpec.ofChange utfTurnedSpec)) utfTurnedCard

/-- THE TIED CARD OF 'figureheadlaw11.UtfCuts'. -/
def utfCutsCard : Claim7 := { stood := { row := utfCutsRow, standIns := [], harness := (true, "5038e4b95e17b065d9d73a7de8b1a4aa8a27242f3a06f5d07ba87f1891f215d1"), looks := false }, kinds := [], alts := [], laidByText := true, laidKinds := [.data, .pinned], laidTests := true, laidLooks := .later }
def UtfCutsCardSaid : Prop := Claim7.holds Tryd.pinned (.plain (OpenSpec.ofChange utfCutsSpec)) utfCutsCard

/-- THE TIED CARD OF 'figureheadlaw12.DigitSystems'. -/
def digitSystemsCard : Claim7 := { stood := { row := digitSystemsRow, standIns := [], harness := (true, "5038e4b95e17b065d9d73a7de8b1a4aa8a27242f3a06f5d07ba87f1891f215d1"), looks := false }, kinds := [], alts := [], laidByText := true, laidKinds := [.data, .pinned], laidTests := true, laidLooks := .later }
def DigitSystemsCardSaid : Prop := Claim7.holds Tryd.pinned (.plain (OpenSpec.ofChange digitSystemsSpec)) digitSystemsCard

/-- THE TIED CARD OF 'figureheadlaw12.DigitPuts'. -/
def digitPutsCard : Claim7 := { stood := { row := digitPutsRow, standIns := [], harness := (true, "5038e4b95e17b065d9d73a7de8b1a4aa8a27242f3a06f5d07ba87f1891f215d1"), looks := false }, kinds := [], alts := [], laidByText := true, laidKinds := [.data, .pinned], laidTests := true, laidLooks := .later }
def DigitPutsCardSaid : Prop := Claim7.holds Tryd.pinned (.plain (OpenSpec.ofChange digitPutsSpec)) digitPutsCard

/-- THE TIED CARD OF 'figureheadlaw12.DigitGets'. -/
def digitGetsCard : Claim7 := { stood := { row := digitGetsRow, standIns := [], harness := (true, "5038e4b95e17b065d9d73a7de8b1a4aa8a27242f3a06f5d07ba87f1891f215d1"), looks := false }, kinds := [], alts := [], laidByText := true, laidKinds := [.data, .pinned], laidTests := true, laidLooks := .later }
def DigitGetsCardSaid : Prop := Claim7.holds Tryd.pinned (.plain (OpenSpec.ofChange digitGetsSpec)) digitGetsCard

/-- THE TIED CARD OF 'figureheadlaw12.DigitMixed'. -/
def digitMixedCard : Claim7 := { stood := { row := digitMixedRow, standIns := [], harness := (true, "5038e4b95e17b065d9d73a7de8b1a4aa8a27242f3a06f5d07ba87f1891f215d1"), looks := false }, kinds := [], alts := [], laidByText := true, laidKinds := [.data, .pinned], laidTests := true, laidLooks := .later }
def DigitMixedCardSaid : Prop := Claim7.holds Tryd.pinned (.plain (OpenSpec.ofChange digitMixedSpec)) digitMixedCard

/-- THE TIED CARD OF 'figureheadlaw12.DigitJoins'. -/
def digitJoinsCard : Claim7 := { stood := { row := digitJoinsRow, standIns := [], harness := (true, "5038e4b95e17b065d9d73a7de8b1a4aa8a27242f3a06f5d07ba87f1891f215d1"), looks := false }, kinds := [], alts := [], laidByText := true, laidKinds := [.data, .pinned], laidTests := true, laidLooks := .later }
def DigitJoinsCardSaid : Prop := Claim7.holds Tryd.pinned (.plain (OpenSpec.ofChange digitJoinsSpec)) digitJoinsCard

/-- THE SECOND FORM's CARD OF 'figureheadlaw11.UtfRunes'. -/
def utfRunesUptoCard : Claim7 := { stood := { row := utfRunesUptoRow, standIns := [], harness := (true, "5038e4b95e17b065d9d73a7de8b1a4aa8a27242f3a06f5d07ba87f1891f215d1"), looks := false }, kinds := [], alts := [], laidByText := true, laidKinds := [.data, .pinned], laidTests := true, laidLooks := .later }
def UtfRunesUptoCardSaid : Prop := Claim7.holds Tryd.pinned (.plain (OpenSpec.upto utfRunesSpec)) utfRunesUptoCard

/-- THE SECOND FORM's CARD OF 'figureheadlaw11.UtfTexts'. -/
def utfTextsUptoCard : Claim7 := { stood := { row := utfTextsUptoRow, standIns := [], harness := (true, "5038e4b95e17b065d9d73a7de8b1a4aa8a27242f3a06f5d07ba87f1891f215d1"), looks := false }, kinds := [], alts := [], laidByText := true, laidKinds := [.data, .pinned], laidTests := true, laidLooks := .later }
def UtfTextsUptoCardSaid : Prop := Claim7.holds Tryd.pinned (.plain (OpenSpec.upto utfTextsSpec)) utfTextsUptoCard

/-- THE SECOND FORM's CARD OF 'figureheadlaw11.UtfJoins'. -/
def utfJoinsUptoCard : Claim7 := { stood := { row := utfJoinsUptoRow, standIns := [], harness := (true, "5038e4b95e17b065d9d73a7de8b1a4aa8a27242f3a06f5d07ba87f1891f215d1"), looks := false }, kinds := [], alts := [], laidByText := true, laidKinds := [.data, .pinned], laidTests := true, laidLooks := .later }
def UtfJoinsUptoCardSaid : Prop := Claim7.holds Tryd.pinned (.plain (OpenSpec.upto utfJoinsSpec)) utfJoinsUptoCard

/-- THE SECOND FORM's CARD OF 'figureheadlaw11.UtfTurned'. -/
def utfTurnedUptoCard : Claim7 := { stood := { row := utfTurnedUptoRow, standIns := [], harness := (true, "5038e4b95e17b065d9d73a7de8b1a4aa8a27242f3a06f5d07ba87f1891f215d1"), looks := false }, kinds := [], alts := [], laidByText := true, laidKinds := [.data, .pinned], laidTests := true, laidLooks := .later }
def UtfTurnedUptoCardSaid : Prop := Claim7.holds Tryd.pinned (.plain (OpenSpec.upto utfTurnedSpec)) utfTurnedUptoCard

/-- THE SECOND FORM's CARD OF 'figureheadlaw11.UtfCuts'. -/
def utfCutsUptoCard : Claim7 := { stood := { row := utfCutsUptoRow, standIns := [], harness := (true, "5038e4b95e17b065d9d73a7de8b1a4aa8a27242f3a06f5d07ba87f1891f215d1"), looks := false }, kinds := [], alts := [], laidByText := true, laidKinds := [.data, .pinned], laidTests := true, laidLooks := .later }
def UtfCutsUptoCardSaid : Prop := Claim7.holds Tryd.pinned (.plain (OpenSpec.upto utfCutsSpec)) utfCutsUptoCard

/-- THE SECOND FORM's CARD OF 'figureheadlaw12.DigitSystems'. -/
def digitSystemsUptoCard : Claim7 := { stood := { row := digitSystemsUptoRow, standIns := [], harness := (true, "5038e4b95e17b065d9d73a7de8b1a4aa8a27242f3a06f5d07ba87f1891f215d1"), looks := false }, kinds := [], alts := [], laidByText := true, laidKinds := [.data, .pinned], laidTests := true, laidLooks := .later }
def DigitSystemsUptoCardSaid : Prop := Claim7.holds Tryd.pinned (.plain (OpenSpec.upto digitSystemsSpec)) digitSystemsUptoCard

/-- THE SECOND FORM's CARD OF 'figureheadlaw12.DigitPuts'. -/
def digitPutsUptoCard : Claim7 := { stood := { row := digitPutsUptoRow, standIns := [], harness := (true, "5038e4b95e17b065d9d73a7de8b1a4aa8a27242f3a06f5d07ba87f1891f215d1"), looks := false }, kinds := [], alts := [], laidByText := true, laidKinds := [.data, .pinned], laidTests := true, laidLooks := .later }
def DigitPutsUptoCardSaid : Prop := Claim7.holds Tryd.pinned (.plain (OpenSpec.upto digitPutsSpec)) digitPutsUptoCard

/-- THE SECOND FORM's CARD OF 'figureheadlaw12.DigitGets'. -/
def digitGetsUptoCard : Claim7 := { stood := { row := digitGetsUptoRow, standIns := [], harness := (true, "5038e4b95e17b065d9d73a7de8b1a4aa8a27242f3a06f5d07ba87f1891f215d1"), looks := false }, kinds := [], alts := [], laidByText := true, laidKinds := [.data, .pinned], laidTests := true, laidLooks := .later }
def DigitGetsUptoCardSaid : Prop := Claim7.holds Tryd.pinned (.plain (OpenSpec.upto digitGetsSpec)) digitGetsUptoCard

/-- THE SECOND FORM's CARD OF 'figureheadlaw12.DigitMixed'. -/
def digitMixedUptoCard : Claim7 := { stood := { row := digitMixedUptoRow, standIns := [], harness := (true, "5038e4b95e17b065d9d73a7de8b1a4aa8a27242f3a06f5d07ba87f1891f215d1"), looks := false }, kinds := [], alts := [], laidByText := true, laidKinds := [.data, .pinned], laidTests := true, laidLooks := .later }
def DigitMixedUptoCardSaid : Prop := Claim7.holds Tryd.pinned (.plain (OpenSpec.upto digitMixedSpec)) digitMixedUptoCard

/-- THE SECOND FORM's CARD OF 'figureheadlaw12.DigitJoins'. -/
def digitJoinsUptoCard : Claim7 := { stood := { row := digitJoinsUptoRow, standIns := [], harness := (true, "5038e4b95e17b065d9d73a7de8b1a4aa8a27242f3a06f5d07ba87f1891f215d1"), looks := false }, kinds := [], alts := [], laidByText := true, laidKinds := [.data, .pinned], laidTests := true, laidLooks := .later }
def DigitJoinsUptoCardSaid : Prop := Claim7.holds Tryd.pinned (.plain (OpenSpec.upto digitJoinsSpec)) digitJoinsUptoCard
end Rows
end Go.Proofs.YtenifjkiiaahiaaDoor
