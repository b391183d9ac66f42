/-
  DERIVED. GIVEN WITH THE SEED: THE CARDS: each row of YtngaeggnjfhnfaaDoorRows.lean that lists a variable, with what it lists TIED to the program's text (the seventh form; the later family's looks); each row that meets fmt, with fmt's text TOLD by the authors' own Lean function (tested against real Go, not proved from fmt's source: count such statements apart). THE CARD IS WHAT COUNTS. Prove the row's statement (the work); the ties are given (YtngaeggnjfhnfaaDoorTie.lean); close each card by the builder's one call (the guide's Derived/Test/ToyasCard.lean, 'card_holds'). Laid BY PROGRAM, IN A SANDBOX (cutbox-door.mjs). By AI agents, Wed Nov 11 2026. No macro, syntax, notation, axiom, sorry.
-/
import Derived.Test.YtngaeggnjfhnfaaDoorRows
import GoSem.ClaimSeven
namespace Go.Proofs.YtngaeggnjfhnfaaDoor
namespace Rows

/-- THE TIED CARD OF 'figureheadlaw18.SymbolGood'. -/
def symbolGoodCard : Claim7 := { stood := { row := symbolGoodRow, standIns := [], harness := (true, "eff084915a65fa99b8a54f588e3fe26f361e5a6eaa96175e9ca1e579043d24a8"), looks := false }, kinds := [], alts := [], laidByText := true, laidKinds := [.data, .pinned], laidTests := true, laidLooks := .later }
def SymbolGoodCardSaid : Prop := Claim7.holds Tryd.pinned (.plain (OpenSpec.ofChange symbolGoodSpec)) symbolGoodCard

/-- THE TIED CARD OF 'figureheadlaw18.SymbolTexts'. -/
def symbolTextsCard : Claim7 := { stood := { row := symbolTextsRow, standIns := [], harness := (true, "eff084915a65fa99b8a54f588e3fe26f361e5a6eaa96175e9ca1e579043d24a8"), looks := false }, kinds := [], alts := [], laidByText := true, laidKinds := [.data, .pinned], laidTests := true, laidLooks := .later }
def SymbolTextsCardSaid : Prop := Claim7.holds Tryd.pinned (.plain (OpenSpec.ofChange symbolTextsSpec)) symbolTextsCard

/-- THE TIED CARD OF 'figureheadlaw18.SymbolJoins'. -/
def symbolJoinsCard : Claim7 := { stood := { row := symbolJoinsRow, standIns := [], harness := (true, "eff084915a65fa99b8a54f588e3fe26f361e5a6eaa96175e9ca1e579043d24a8"), looks := false }, kinds := [], alts := [], laidByText := true, laidKinds := [.data, .pinned], laidTests := true, laidLooks := .later }
def SymbolJoinsCardSaid : Prop := Claim7.holds Tryd.pinned (.plain (OpenSpec.ofChange symbolJoinsSpec)) symbolJoinsCard

/-- THE TIED CARD OF 'figureheadlaw18.SymbolLatin'. -/
def symbolLatinCard : Claim7 := { stood := { row := symbolLatinRow, standIns := [], harness := (true, "eff084915a65fa99b8a54f588e3fe26f361e5a6eaa96175e9ca1e579043d24a8"), looks := false }, kinds := [], alts := [], laidByText := true, laidKinds := [.data, .pinned], laidTests := true, laidLooks := .later }
def SymbolLatinCardSaid : Prop := Claim7.holds Tryd.pinned (.plain (OpenSpec.ofChange symbolLatinSpec)) symbolLatinCard

/-- THE TIED CARD OF 'figureheadlaw18.SymbolSigns'. -/
def symbolSignsCard : Claim7 := { stood := { row := symbolSignsRow, standIns := [], harness := (true, "eff084915a65fa99b8a54f588e3fe26f361e5a6eaa96175e9ca1e579043d24a8"), looks := false }, kinds := [], alts := [], laidByText := true, laidKinds := [.data, .pinned], laidTests := true, laidLooks := .later }
def SymbolSignsCardSaid : Prop := Claim7.holds Tryd.pinned (.plain (OpenSpec.ofChange symbolSignsSpec)) symbolSignsCard

/-- THE SECOND FORM's CARD OF 'figureheadlaw18.SymbolGood'. -/
def symbolGoodUptoCard : Claim7 := { stood := { row := symbolGoodUptoRow, standIns := [], harness := (true, "eff084915a65fa99b8a54f588e3fe26f361e5a6eaa96175e9ca1e579043d24a8"), looks := false }, kinds := [], alts := [], laidByText := true, laidKinds := [.data, .pinned], laidTests := true, laidLooks := .later }
def SymbolGoodUptoCardSaid : Prop := Claim7.holds Tryd.pinned (.plain (OpenSpec.upto symbolGoodSpec)) symbolGoodUptoCard

/-- THE SECOND FORM's CARD OF 'figureheadlaw18.SymbolTexts'. -/
def symbolTextsUptoCard : Claim7 := { stood := { row := symbolTextsUptoRow, standIns := [], harness := (true, "eff084915a65fa99b8a54f588e3fe26f361e5a6eaa96175e9ca1e579043d24a8"), looks := false }, kinds := [], alts := [], laidByText := true, laidKinds := [.data, .pinned], laidTests := true, laidLooks := .later }
def SymbolTextsUptoCardSaid : Prop := Claim7.holds Tryd.pinned (.plain (OpenSpec.upto symbolTextsSpec)) symbolTextsUptoCard

/-- THE SECOND FORM's CARD OF 'figureheadlaw18.SymbolJoins'. -/
def symbolJoinsUptoCard : Claim7 := { stood := { row := symbolJoinsUptoRow, standIns := [], harness := (true, "eff084915a65fa99b8a54f588e3fe26f361e5a6eaa96175e9ca1e579043d24a8"), looks := false }, kinds := [], alts := [], laidByText := true, laidKinds := [.data, .pinned], laidTests := true, laidLooks := .later }
def SymbolJoinsUptoCardSaid : Prop := Claim7.holds Tryd.pinned (.plain (OpenSpec.upto symbolJoinsSpec)) symbolJoinsUptoCard

/-- THE SECOND FORM's CARD OF 'figureheadlaw18.SymbolLatin'. -/
def symbolLatinUptoCard : Claim7 := { stood := { row := symbolLatinUptoRow, standIns := [], harness := (true, "eff084915a65fa99b8a54f588e3fe26f361e5a6eaa96175e9ca1e579043d24a8"), looks := false }, kinds := [], alts := [], laidByText := true, laidKinds := [.data, .pinned], laidTests := true, laidLooks := .later }
def SymbolLatinUptoCardSaid : Prop := Claim7.holds Tryd.pinned (.plain (OpenSpec.upto symbolLatinSpec)) symbolLatinUptoCard

/-- THE SECOND FORM's CARD OF 'figureheadlaw18.SymbolSigns'. -/
def symbolSignsUptoCard : Claim7 := { stood := { row := symbolSignsUptoRow, standIns := [], harness := (true, "eff084915a65fa99b8a54f588e3fe26f361e5a6eaa96175e9ca1e579043d24a8"), looks := false }, kinds := [], alts := [], laidByText := true, laidKinds := [.data, .pinned], laidTests := true, laidLooks := .later }
def SymbolSignsUptoCardSaid : Prop := Claim7.holds Tryd.pinned (.plain (OpenSpec.upto symbolSignsSpec)) symbolSignsUptoCard
end Rows
end Go.Proofs.YtngaeggnjfhnfaaDoor
