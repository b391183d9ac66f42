/-
  DERIVED. GIVEN WITH THE SEED: THE CARDS: each row of YtcenacecegleeaaDoorRows.lean that lists a variable, with what it lists TIED to the program's text (the seventh form; the later family's looks); each row that meets fmt, with fmt's text TOLD by the authors' own Lean function (tested against real Go, not proved from fmt's source: count such statements apart). THE CARD IS WHAT COUNTS. Prove the row's statement (the work); the ties are given (YtcenacecegleeaaDoorTie.lean); close each card by the builder's one call (the guide's Derived/Test/ToyasCard.lean, 'card_holds'). Laid BY PROGRAM, IN A SANDBOX (cutbox-door.mjs). By AI agents, Wed Nov 11 2026. No macro, syntax, notation, axiom, sorry.
-/
import Derived.Test.YtcenacecegleeaaDoorRows
import GoSem.ClaimSeven
namespace Go.Proofs.YtcenacecegleeaaDoor
namespace Rows

/-- THE TIED CARD OF 'figureheadlaw14.AffixItems'. -/
def affixItemsCard : Claim7 := { stood := { row := affixItemsRow, standIns := [], harness := (true, "2f93670905db84558c2ad325feb6a024c94b6e4b6d3848ea31ce53d7dbf447cf"), looks := true }, kinds := [], alts := [], laidByText := true, laidKinds := [.data, .data, .pinned], laidTests := true, laidLooks := .later }
def AffixItemsCardSaid : Prop := Claim7.holds Tryd.pinned (.plain (OpenSpec.ofChange affixItemsSpec)) affixItemsCard

/-- THE TIED CARD OF 'figureheadlaw14.AffixTokens'. -/
def affixTokensCard : Claim7 := { stood := { row := affixTokensRow, standIns := [], harness := (true, "2f93670905db84558c2ad325feb6a024c94b6e4b6d3848ea31ce53d7dbf447cf"), looks := true }, kinds := [], alts := [], laidByText := true, laidKinds := [.data, .data, .pinned], laidTests := true, laidLooks := .later }
def AffixTokensCardSaid : Prop := Claim7.holds Tryd.pinned (.plain (OpenSpec.ofChange affixTokensSpec)) affixTokensCard

/-- THE TIED CARD OF 'figureheadlaw14.AffixBack'. -/
def affixBackCard : Claim7 := { stood := { row := affixBackRow, standIns := [], harness := (true, "2f93670905db84558c2ad325feb6a024c94b6e4b6d3848ea31ce53d7dbf447cf"), looks := true }, kinds := [], alts := [], laidByText := true, laidKinds := [.data, .data, .pinned], laidTests := true, laidLooks := .later }
def AffixBackCardSaid : Prop := Claim7.holds Tryd.pinned (.plain (OpenSpec.ofChange affixBackSpec)) affixBackCard

/-- THE TIED CARD OF 'figureheadlaw14.AffixNeeds'. -/
def affixNeedsCard : Claim7 := { stood := { row := affixNeedsRow, standIns := [], harness := (true, "2f93670905db84558c2ad325feb6a024c94b6e4b6d3848ea31ce53d7dbf447cf"), looks := true }, kinds := [], alts := [], laidByText := true, laidKinds := [.data, .data, .pinned], laidTests := true, laidLooks := .later }
def AffixNeedsCardSaid : Prop := Claim7.holds Tryd.pinned (.plain (OpenSpec.ofChange affixNeedsSpec)) affixNeedsCard

/-- THE TIED CARD OF 'figureheadlaw14.AffixMarks'. -/
def affixMarksCard : Claim7 := { stood := { row := affixMarksRow, standIns := [], harness := (true, "2f93670905db84558c2ad325feb6a024c94b6e4b6d3848ea31ce53d7dbf447cf"), looks := true }, kinds := [], alts := [], laidByText := true, laidKinds := [.data, .data, .pinned], laidTests := true, laidLooks := .later }
def AffixMarksCardSaid : Prop := Claim7.holds Tryd.pinned (.plain (OpenSpec.ofChange affixMarksSpec)) affixMarksCard

/-- THE SECOND FORM's CARD OF 'figureheadlaw14.AffixItems'. -/
def affixItemsUptoCard : Claim7 := { stood := { row := affixItemsUptoRow, standIns := [], harness := (true, "2f93670905db84558c2ad325feb6a024c94b6e4b6d3848ea31ce53d7dbf447cf"), looks := true }, kinds := [], alts := [], laidByText := true, laidKinds := [.data, .data, .pinned], laidTests := true, laidLooks := .later }
def AffixItemsUptoCardSaid : Prop := Claim7.holds Tryd.pinned (.plain (OpenSpec.upto affixItemsSpec)) affixItemsUptoCard

/-- THE SECOND FORM's CARD OF 'figureheadlaw14.AffixTokens'. -/
def affixTokensUptoCard : Claim7 := { stood := { row := affixTokensUptoRow, standIns := [], harness := (true, "2f93670905db84558c2ad325feb6a024c94b6e4b6d3848ea31ce53d7dbf447cf"), looks := true }, kinds := [], alts := [], laidByText := true, laidKinds := [.data, .data, .pinned], laidTests := true, laidLooks := .later }
def AffixTokensUptoCardSaid : Prop := Claim7.holds Tryd.pinned (.plain (OpenSpec.upto affixTokensSpec)) affixTokensUptoCard

/-- THE SECOND FORM's CARD OF 'figureheadlaw14.AffixBack'. -/
def affixBackUptoCard : Claim7 := { stood := { row := affixBackUptoRow, standIns := [], harness := (true, "2f93670905db84558c2ad325feb6a024c94b6e4b6d3848ea31ce53d7dbf447cf"), looks := true }, kinds := [], alts := [], laidByText := true, laidKinds := [.data, .data, .pinned], laidTests := true, laidLooks := .later }
def AffixBackUptoCardSaid : Prop := Claim7.holds Tryd.pinned (.plain (OpenSpec.upto affixBackSpec)) affixBackUptoCard

/-- THE SECOND FORM's CARD OF 'figureheadlaw14.AffixNeeds'. -/
def affixNeedsUptoCard : Claim7 := { stood := { row := affixNeedsUptoRow, standIns := [], harness := (true, "2f93670905db84558c2ad325feb6a024c94b6e4b6d3848ea31ce53d7dbf447cf"), looks := true }, kinds := [], alts := [], laidByText := true, laidKinds := [.data, .data, .pinned], laidTests := true, laidLooks := .later }
def AffixNeedsUptoCardSaid : Prop := Claim7.holds Tryd.pinned (.plain (OpenSpec.upto affixNeedsSpec)) affixNeedsUptoCard

/-- THE SECOND FORM's CARD OF 'figureheadlaw14.AffixMarks'. -/
def affixMarksUptoCard : Claim7 := { stood := { row := affixMarksUptoRow, standIns := [], harness := (true, "2f93670905db84558c2ad325feb6a024c94b6e4b6d3848ea31ce53d7dbf447cf"), looks := true }, kinds := [], alts := [], laidByText := true, laidKinds := [.data, .data, .pinned], laidTests := true, laidLooks := .later }
def AffixMarksUptoCardSaid : Prop := Claim7.holds Tryd.pinned (.plain (OpenSpec.upto affixMarksSpec)) affixMarksUptoCard
end Rows
end Go.Proofs.YtcenacecegleeaaDoor
