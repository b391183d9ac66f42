/-
  DERIVED. GIVEN WITH THE SEED: THE CARDS: each row of YteiifaijhbcjcaaDoorRows.lean that lists a variable, with what it lists TIED to the program's text (the seventh form; the later family's looks); each row that meets fmt, with fmt's text TOLD by the authors' own Lean function (tested against real Go, not proved from fmt's source: count such statements apart). THE CARD IS WHAT COUNTS. Prove the row's statement (the work); the ties are given (YteiifaijhbcjcaaDoorTie.lean); close each card by the builder's one call (the guide's Derived/Test/ToyasCard.lean, 'card_holds'). Laid BY PROGRAM, IN A SANDBOX (cutbox-door.mjs). By AI agents, Wed Nov 11 2026. No macro, syntax, notation, axiom, sorry.
-/
import Derived.Test.YteiifaijhbcjcaaDoorRows
import GoSem.ClaimSeven
namespace Go.Proofs.YteiifaijhbcjcaaDoor
namespace Rows

/-- THE TIED CARD OF 'figureheadlaw13.TokenScans'. -/
def tokenScansCard : Claim7 := { stood := { row := tokenScansRow, standIns := [], harness := (true, "4ba8e296c3c743f16844e588b18ae20d2c055c641228a20ac82fb51d22e7cff6"), looks := true }, kinds := [], alts := [], laidByText := true, laidKinds := [.data, .pinned], laidTests := true, laidLooks := .later }
def TokenScansCardSaid : Prop := Claim7.holds Tryd.pinned (.plain (OpenSpec.ofChange tokenScansSpec)) tokenScansCard

/-- THE TIED CARD OF 'figureheadlaw13.TokenPrints'. -/
def tokenPrintsCard : Claim7 := { stood := { row := tokenPrintsRow, standIns := [], harness := (true, "4ba8e296c3c743f16844e588b18ae20d2c055c641228a20ac82fb51d22e7cff6"), looks := true }, kinds := [], alts := [], laidByText := true, laidKinds := [.data, .pinned], laidTests := true, laidLooks := .later }
def TokenPrintsCardSaid : Prop := Claim7.holds Tryd.pinned (.plain (OpenSpec.ofChange tokenPrintsSpec)) tokenPrintsCard

/-- THE TIED CARD OF 'figureheadlaw13.TokenFixed'. -/
def tokenFixedCard : Claim7 := { stood := { row := tokenFixedRow, standIns := [], harness := (true, "4ba8e296c3c743f16844e588b18ae20d2c055c641228a20ac82fb51d22e7cff6"), looks := true }, kinds := [], alts := [], laidByText := true, laidKinds := [.data, .pinned], laidTests := true, laidLooks := .later }
def TokenFixedCardSaid : Prop := Claim7.holds Tryd.pinned (.plain (OpenSpec.ofChange tokenFixedSpec)) tokenFixedCard

/-- THE TIED CARD OF 'figureheadlaw13.TokenQuoted'. -/
def tokenQuotedCard : Claim7 := { stood := { row := tokenQuotedRow, standIns := [], harness := (true, "4ba8e296c3c743f16844e588b18ae20d2c055c641228a20ac82fb51d22e7cff6"), looks := true }, kinds := [], alts := [], laidByText := true, laidKinds := [.data, .pinned], laidTests := true, laidLooks := .later }
def TokenQuotedCardSaid : Prop := Claim7.holds Tryd.pinned (.plain (OpenSpec.ofChange tokenQuotedSpec)) tokenQuotedCard

/-- THE TIED CARD OF 'figureheadlaw13.TokenPlain'. -/
def tokenPlainCard : Claim7 := { stood := { row := tokenPlainRow, standIns := [], harness := (true, "4ba8e296c3c743f16844e588b18ae20d2c055c641228a20ac82fb51d22e7cff6"), looks := true }, kinds := [], alts := [], laidByText := true, laidKinds := [.data, .pinned], laidTests := true, laidLooks := .later }
def TokenPlainCardSaid : Prop := Claim7.holds Tryd.pinned (.plain (OpenSpec.ofChange tokenPlainSpec)) tokenPlainCard

/-- THE TIED CARD OF 'figureheadlaw14.AffixItems'. -/
def affixItemsCard : Claim7 := { stood := { row := affixItemsRow, standIns := [], harness := (true, "4ba8e296c3c743f16844e588b18ae20d2c055c641228a20ac82fb51d22e7cff6"), looks := true }, kinds := [], alts := [], laidByText := true, laidKinds := [.data, .data, .pinned], laidTests := true, laidLooks := .later }
def AffixItemsCardSaid : Prop := Claim7.holds Tryd.pinned (.plain (OpenSpec.ofChange affixItemsSpec)) affixItemsCard

/-- THE TIED CARD OF 'figureheadlaw14.AffixTokens'. -/
def affixTokensCard : Claim7 := { stood := { row := affixTokensRow, standIns := [], harness := (true, "4ba8e296c3c743f16844e588b18ae20d2c055c641228a20ac82fb51d22e7cff6"), looks := true }, kinds := [], alts := [], laidByText := true, laidKinds := [.data, .data, .pinned], laidTests := true, laidLooks := .later }
def AffixTokensCardSaid : Prop := Claim7.holds Tryd.pinned (.plain (OpenSpec.ofChange affixTokensSpec)) affixTokensCard

/-- THE TIED CARD OF 'figureheadlaw14.AffixBack'. -/
def affixBackCard : Claim7 := { stood := { row := affixBackRow, standIns := [], harness := (true, "4ba8e296c3c743f16844e588b18ae20d2c055c641228a20ac82fb51d22e7cff6"), looks := true }, kinds := [], alts := [], laidByText := true, laidKinds := [.data, .data, .pinned], laidTests := true, laidLooks := .later }
def AffixBackCardSaid : Prop := Claim7.holds Tryd.pinned (.plain (OpenSpec.ofChange affixBackSpec)) affixBackCard

/-- THE TIED CARD OF 'figureheadlaw14.AffixNeeds'. -/
def affixNeedsCard : Claim7 := { stood := { row := affixNeedsRow, standIns := [], harness := (true, "4ba8e296c3c743f16844e588b18ae20d2c055c641228a20ac82fb51d22e7cff6"), looks := true }, kinds := [], alts := [], laidByText := true, laidKinds := [.data, .data, .pinned], laidTests := true, laidLooks := .later }
def AffixNeedsCardSaid : Prop := Claim7.holds Tryd.pinned (.plain (OpenSpec.ofChange affixNeedsSpec)) affixNeedsCard

/-- THE TIED CARD OF 'figureheadlaw14.AffixMarks'. -/
def affixMarksCard : Claim7 := { stood := { row := affixMarksRow, standIns := [], harness := (true, "4ba8e296c3c743f16844e588b18ae20d2c055c641228a20ac82fb51d22e7cff6"), looks := true }, kinds := [], alts := [], laidByText := true, laidKinds := [.data, .data, .pinned], laidTests := true, laidLooks := .later }
def AffixMarksCardSaid : Prop := Claim7.holds Tryd.pinned (.plain (OpenSpec.ofChange affixMarksSpec)) affixMarksCard

/-- THE SECOND FORM's CARD OF 'figureheadlaw13.TokenScans'. -/
def tokenScansUptoCard : Claim7 := { stood := { row := tokenScansUptoRow, standIns := [], harness := (true, "4ba8e296c3c743f16844e588b18ae20d2c055c641228a20ac82fb51d22e7cff6"), looks := true }, kinds := [], alts := [], laidByText := true, laidKinds := [.data, .pinned], laidTests := true, laidLooks := .later }
def TokenScansUptoCardSaid : Prop := Claim7.holds Tryd.pinned (.plain (OpenSpec.upto tokenScansSpec)) tokenScansUptoCard

/-- THE SECOND FORM's CARD OF 'figureheadlaw13.TokenPrints'. -/
def tokenPrintsUptoCard : Claim7 := { stood := { row := tokenPrintsUptoRow, standIns := [], harness := (true, "4ba8e296c3c743f16844e588b18ae20d2c055c641228a20ac82fb51d22e7cff6"), looks := true }, kinds := [], alts := [], laidByText := true, laidKinds := [.data, .pinned], laidTests := true, laidLooks := .later }
def TokenPrintsUptoCardSaid : Prop := Claim7.holds Tryd.pinned (.plain (OpenSpec.upto tokenPrintsSpec)) tokenPrintsUptoCard

/-- THE SECOND FORM's CARD OF 'figureheadlaw13.TokenFixed'. -/
def tokenFixedUptoCard : Claim7 := { stood := { row := tokenFixedUptoRow, standIns := [], harness := (true, "4ba8e296c3c743f16844e588b18ae20d2c055c641228a20ac82fb51d22e7cff6"), looks := true }, kinds := [], alts := [], laidByText := true, laidKinds := [.data, .pinned], laidTests := true, laidLooks := .later }
def TokenFixedUptoCardSaid : Prop := Claim7.holds Tryd.pinned (.plain (OpenSpec.upto tokenFixedSpec)) tokenFixedUptoCard

/-- THE SECOND FORM's CARD OF 'figureheadlaw13.TokenQuoted'. -/
def tokenQuotedUptoCard : Claim7 := { stood := { row := tokenQuotedUptoRow, standIns := [], harness := (true, "4ba8e296c3c743f16844e588b18ae20d2c055c641228a20ac82fb51d22e7cff6"), looks := true }, kinds := [], alts := [], laidByText := true, laidKinds := [.data, .pinned], laidTests := true, laidLooks := .later }
def TokenQuotedUptoCardSaid : Prop := Claim7.holds Tryd.pinned (.plain (OpenSpec.upto tokenQuotedSpec)) tokenQuotedUptoCard

/-- THE SECOND FORM's CARD OF 'figureheadlaw13.TokenPlain'. -/
def tokenPlainUptoCard : Claim7 := { stood := { row := tokenPlainUptoRow, standIns := [], harness := (true, "4ba8e296c3c743f16844e588b18ae20d2c055c641228a20ac82fb51d22e7cff6"), looks := true }, kinds := [], alts := [], laidByText := true, laidKinds := [.data, .pinned], laidTests := true, laidLooks := .later }
def TokenPlainUptoCardSaid : Prop := Claim7.holds Tryd.pinned (.plain (OpenSpec.upto tokenPlainSpec)) tokenPlainUptoCard

/-- THE SECOND FORM's CARD OF 'figureheadlaw14.AffixItems'. -/
def affixItemsUptoCard : Claim7 := { stood := { row := affixItemsUptoRow, standIns := [], harness := (true, "4ba8e296c3c743f16844e588b18ae20d2c055c641228a20ac82fb51d22e7cff6"), looks := true }, kinds := [], alts := [], laidByText := true, laidKinds := [.data, .data, .pinned], laidTests := true, laidLooks := .later }
def AffixItemsUptoCardSaid : Prop := Claim7.holds Tryd.pinned (.plain (OpenSpec.upto affixItemsSpec)) affixItemsUptoCard

/-- THE SECOND FORM's CARD OF 'figureheadlaw14.AffixTokens'. -/
def affixTokensUptoCard : Claim7 := { stood := { row := affixTokensUptoRow, standIns := [], harness := (true, "4ba8e296c3c743f16844e588b18ae20d2c055c641228a20ac82fb51d22e7cff6"), looks := true }, kinds := [], alts := [], laidByText := true, laidKinds := [.data, .data, .pinned], laidTests := true, laidLooks := .later }
def AffixTokensUptoCardSaid : Prop := Claim7.holds Tryd.pinned (.plain (OpenSpec.upto affixTokensSpec)) affixTokensUptoCard

/-- THE SECOND FORM's CARD OF 'figureheadlaw14.AffixBack'. -/
def affixBackUptoCard : Claim7 := { stood := { row := affixBackUptoRow, standIns := [], harness := (true, "4ba8e296c3c743f16844e588b18ae20d2c055c641228a20ac82fb51d22e7cff6"), looks := true }, kinds := [], alts := [], laidByText := true, laidKinds := [.data, .data, .pinned], laidTests := true, laidLooks := .later }
def AffixBackUptoCardSaid : Prop := Claim7.holds Tryd.pinned (.plain (OpenSpec.upto affixBackSpec)) affixBackUptoCard

/-- THE SECOND FORM's CARD OF 'figureheadlaw14.AffixNeeds'. -/
def affixNeedsUptoCard : Claim7 := { stood := { row := affixNeedsUptoRow, standIns := [], harness := (true, "4ba8e296c3c743f16844e588b18ae20d2c055c641228a20ac82fb51d22e7cff6"), looks := true }, kinds := [], alts := [], laidByText := true, laidKinds := [.data, .data, .pinned], laidTests := true, laidLooks := .later }
def AffixNeedsUptoCardSaid : Prop := Claim7.holds Tryd.pinned (.plain (OpenSpec.upto affixNeedsSpec)) affixNeedsUptoCard

/-- THE SECOND FORM's CARD OF 'figureheadlaw14.AffixMarks'. -/
def affixMarksUptoCard : Claim7 := { stood := { row := affixMarksUptoRow, standIns := [], harness := (true, "4ba8e296c3c743f16844e588b18ae20d2c055c641228a20ac82fb51d22e7cff6"), looks := true }, kinds := [], alts := [], laidByText := true, laidKinds := [.data, .data, .pinned], laidTests := true, laidLooks := .later }
def AffixMarksUptoCardSaid : Prop := Claim7.holds Tryd.pinned (.plain (OpenSpec.upto affixMarksSpec)) affixMarksUptoCard
end Rows
end Go.Proofs.YteiifaijhbcjcaaDoor
