/-
  DERIVED. GIVEN WITH THE SEED: THE CARDS: each row of YtgobcejjefgkcaaDoorRows.lean that lists a variable, with what it lists TIED to the program's text (the seventh form; the later family's looks); each row that meets fmt, with fmt's text TOLD by the authors' own Lean function (tested against real Go, not proved from fmt's source: count such statements apart). THE CARD IS WHAT COUNTS. Prove the row's statement (the work); the ties are given (YtgobcejjefgkcaaDoorTie.lean); close each card by the builder's one call (the guide's Derived/Test/ToyasCard.lean, 'card_holds'). Laid BY PROGRAM, IN A SANDBOX (cutbox-door.mjs). By AI agents, Wed Nov 11 2026. No macro, syntax, notation, axiom, sorry.
-/
import Derived.Test.YtgobcejjefgkcaaDoorRows
import GoSem.ClaimSeven
namespace Go.Proofs.YtgobcejjefgkcaaDoor
namespace Rows

/-- THE TIED CARD OF 'figureheadlaw15.NumberParses'. -/
def numberParsesCard : Claim7 := { stood := { row := numberParsesRow, standIns := [], harness := (true, "2e2759e662d8c2e09f7a2563cb60930e1803fb418a7e559fe9fca6c2052dc50d"), looks := false }, kinds := [], alts := [], laidByText := true, laidKinds := [.data, .pinned], laidTests := true, laidLooks := .later }
def NumberParsesCardSaid : Prop := Claim7.holds Tryd.pinned (.plain (OpenSpec.ofChange numberParsesSpec)) numberParsesCard

/-- THE TIED CARD OF 'figureheadlaw15.NumberPrints'. -/
def numberPrintsCard : Claim7 := { stood := { row := numberPrintsRow, standIns := [], harness := (true, "2e2759e662d8c2e09f7a2563cb60930e1803fb418a7e559fe9fca6c2052dc50d"), looks := false }, kinds := [], alts := [], laidByText := true, laidKinds := [.data, .pinned], laidTests := true, laidLooks := .later }
def NumberPrintsCardSaid : Prop := Claim7.holds Tryd.pinned (.plain (OpenSpec.ofChange numberPrintsSpec)) numberPrintsCard

/-- THE TIED CARD OF 'figureheadlaw15.NumberBack'. -/
def numberBackCard : Claim7 := { stood := { row := numberBackRow, standIns := [], harness := (true, "2e2759e662d8c2e09f7a2563cb60930e1803fb418a7e559fe9fca6c2052dc50d"), looks := false }, kinds := [], alts := [], laidByText := true, laidKinds := [.data, .pinned], laidTests := true, laidLooks := .later }
def NumberBackCardSaid : Prop := Claim7.holds Tryd.pinned (.plain (OpenSpec.ofChange numberBackSpec)) numberBackCard

/-- THE TIED CARD OF 'figureheadlaw15.NumberBounds'. -/
def numberBoundsCard : Claim7 := { stood := { row := numberBoundsRow, standIns := [], harness := (true, "2e2759e662d8c2e09f7a2563cb60930e1803fb418a7e559fe9fca6c2052dc50d"), looks := false }, kinds := [], alts := [], laidByText := true, laidKinds := [.data, .pinned], laidTests := true, laidLooks := .later }
def NumberBoundsCardSaid : Prop := Claim7.holds Tryd.pinned (.plain (OpenSpec.ofChange numberBoundsSpec)) numberBoundsCard

/-- THE TIED CARD OF 'figureheadlaw15.NumberMore'. -/
def numberMoreCard : Claim7 := { stood := { row := numberMoreRow, standIns := [], harness := (true, "2e2759e662d8c2e09f7a2563cb60930e1803fb418a7e559fe9fca6c2052dc50d"), looks := false }, kinds := [], alts := [], laidByText := true, laidKinds := [.data, .pinned], laidTests := true, laidLooks := .later }
def NumberMoreCardSaid : Prop := Claim7.holds Tryd.pinned (.plain (OpenSpec.ofChange numberMoreSpec)) numberMoreCard

/-- THE TIED CARD OF 'figureheadlaw15.NumberFields'. -/
def numberFieldsCard : Claim7 := { stood := { row := numberFieldsRow, standIns := [], harness := (true, "2e2759e662d8c2e09f7a2563cb60930e1803fb418a7e559fe9fca6c2052dc50d"), looks := false }, kinds := [], alts := [], laidByText := true, laidKinds := [.data, .pinned], laidTests := true, laidLooks := .later }
def NumberFieldsCardSaid : Prop := Claim7.holds Tryd.pinned (.plain (OpenSpec.ofChange numberFieldsSpec)) numberFieldsCard

/-- THE SECOND FORM's CARD OF 'figureheadlaw15.NumberParses'. -/
def numberParsesUptoCard : Claim7 := { stood := { row := numberParsesUptoRow, standIns := [], harness := (true, "2e2759e662d8c2e09f7a2563cb60930e1803fb418a7e559fe9fca6c2052dc50d"), looks := false }, kinds := [], alts := [], laidByText := true, laidKinds := [.data, .pinned], laidTests := true, laidLooks := .later }
def NumberParsesUptoCardSaid : Prop := Claim7.holds Tryd.pinned (.plain (OpenSpec.upto numberParsesSpec)) numberParsesUptoCard

/-- THE SECOND FORM's CARD OF 'figureheadlaw15.NumberPrints'. -/
def numberPrintsUptoCard : Claim7 := { stood := { row := numberPrintsUptoRow, standIns := [], harness := (true, "2e2759e662d8c2e09f7a2563cb60930e1803fb418a7e559fe9fca6c2052dc50d"), looks := false }, kinds := [], alts := [], laidByText := true, laidKinds := [.data, .pinned], laidTests := true, laidLooks := .later }
def NumberPrintsUptoCardSaid : Prop := Claim7.holds Tryd.pinned (.plain (OpenSpec.upto numberPrintsSpec)) numberPrintsUptoCard

/-- THE SECOND FORM's CARD OF 'figureheadlaw15.NumberBack'. -/
def numberBackUptoCard : Claim7 := { stood := { row := numberBackUptoRow, standIns := [], harness := (true, "2e2759e662d8c2e09f7a2563cb60930e1803fb418a7e559fe9fca6c2052dc50d"), looks := false }, kinds := [], alts := [], laidByText := true, laidKinds := [.data, .pinned], laidTests := true, laidLooks := .later }
def NumberBackUptoCardSaid : Prop := Claim7.holds Tryd.pinned (.plain (OpenSpec.upto numberBackSpec)) numberBackUptoCard

/-- THE SECOND FORM's CARD OF 'figureheadlaw15.NumberBounds'. -/
def numberBoundsUptoCard : Claim7 := { stood := { row := numberBoundsUptoRow, standIns := [], harness := (true, "2e2759e662d8c2e09f7a2563cb60930e1803fb418a7e559fe9fca6c2052dc50d"), looks := false }, kinds := [], alts := [], laidByText := true, laidKinds := [.data, .pinned], laidTests := true, laidLooks := .later }
def NumberBoundsUptoCardSaid : Prop := Claim7.holds Tryd.pinned (.plain (OpenSpec.upto numberBoundsSpec)) numberBoundsUptoCard

/-- THE SECOND FORM's CARD OF 'figureheadlaw15.NumberMore'. -/
def numberMoreUptoCard : Claim7 := { stood := { row := numberMoreUptoRow, standIns := [], harness := (true, "2e2759e662d8c2e09f7a2563cb60930e1803fb418a7e559fe9fca6c2052dc50d"), looks := false }, kinds := [], alts := [], laidByText := true, laidKinds := [.data, .pinned], laidTests := true, laidLooks := .later }
def NumberMoreUptoCardSaid : Prop := Claim7.holds Tryd.pinned (.plain (OpenSpec.upto numberMoreSpec)) numberMoreUptoCard

/-- THE SECOND FORM's CARD OF 'figureheadlaw15.NumberFields'. -/
def numberFieldsUptoCard : Claim7 := { stood := { row := numberFieldsUptoRow, standIns := [], harness := (true, "2e2759e662d8c2e09f7a2563cb60930e1803fb418a7e559fe9fca6c2052dc50d"), looks := false }, kinds := [], alts := [], laidByText := true, laidKinds := [.data, .pinned], laidTests := true, laidLooks := .later }
def NumberFieldsUptoCardSaid : Prop := Claim7.holds Tryd.pinned (.plain (OpenSpec.upto numberFieldsSpec)) numberFieldsUptoCard
end Rows
end Go.Proofs.YtgobcejjefgkcaaDoor
