/-
  NARROWER THAN 'FOR EVERY INPUT', by the rows' own cells (each row's printed sentence says how): AffixItems: laid · AffixTokens: laid · AffixBack: laid · AffixNeeds: laid · AffixMarks: laid.
  DERIVED. THE GIVEN ROWS OF THIS SEAT. 5 by the template 'for every input the law returns true; each argument reads behind the call as it read before'; 0 by the template 'total and deterministic' (their statements: YtcenacecegleeaaDoorTotals.lean).
  GIVEN WITH THE SEED: the statements are not yours to turn. If you find one false, say at which input.
  Laid BY PROGRAM, IN A SANDBOX (cutbox-rows.mjs): the forced cells as the released guide's own fill.sh prints them over the translation 62901bc8af5793f4… (all of the seat's roots in one cut). By AI agents, Wed Nov 11 2026. No macro, syntax, notation, axiom, sorry.
-/
import Derived.Test.YtcenacecegleeaaDoorChecked
import GoSem.PinnedTables
import GoSem.Claim
import GoSem.ClaimJoined
import GoSem.ClaimMapViews
import Derived.JoinedTies
import Derived.KernelRfl
namespace Go.Proofs.YtcenacecegleeaaDoor
/- THE CELL 'sum', in the pinned program and in every row, IS THE sha256 OF THE DUMP (.gsa) THAT YtcenacecegleeaaDoorProg.lean LOADS. Nothing in Lean hashes anything: it is a label: what it is worth is what the hold of that sum in a sandbox is worth. -/
noncomputable def Tryd.pinned : Pinned := { name := "ytcenacecegleeaadoor", sum := "62901bc8af5793f42951e90d1de2cf5141ef59073a9a0e9cce61e7f778d115fb", checked := Tryd.checked }
namespace Rows
def none {H : Type} : Left H := { results := [], args := [] }

/- WHAT THE LISTED PACKAGE-LEVEL VARIABLES READ AS WHEN THE CALL BEGINS. Each datum BY PROGRAM (the guide's laid-datum.mjs) off the statement by which the dump's own 'gosem.cut.vars' lays the variable. In a bare row this is a premise. The card (YtcenacecegleeaaDoorCards.lean) ties it to the program's text. -/
def laid_unicode_utf8_acceptRanges {H : Type} : DataW H := .agg [.agg [.lit (.int .u8 128), .lit (.int .u8 191)], .agg [.lit (.int .u8 160), .lit (.int .u8 191)], .agg [.lit (.int .u8 128), .lit (.int .u8 159)], .agg [.lit (.int .u8 144), .lit (.int .u8 191)], .agg [.lit (.int .u8 128), .lit (.int .u8 143)], .agg [.lit (.int .u8 0), .lit (.int .u8 0)], .agg [.lit (.int .u8 0), .lit (.int .u8 0)], .agg [.lit (.int .u8 0), .lit (.int .u8 0)], .agg [.lit (.int .u8 0), .lit (.int .u8 0)], .agg [.lit (.int .u8 0), .lit (.int .u8 0)], .agg [.lit (.int .u8 0), .lit (.int .u8 0)], .agg [.lit (.int .u8 0), .lit (.int .u8 0)], .agg [.lit (.int .u8 0), .lit (.int .u8 0)], .agg [.lit (.int .u8 0), .lit (.int .u8 0)], .agg [.lit (.int .u8 0), .lit (.int .u8 0)], .agg [.lit (.int .u8 0), .lit (.int .u8 0)]]
def laid_figurehead_affix_signs {H : Type} : DataW H := .agg [.agg [.lit (.int .i64 2), .lit (.int .i32 45)], .agg [.lit (.int .i64 3), .lit (.int .i32 43)], .agg [.lit (.int .i64 4), .lit (.int .i32 37)], .agg [.lit (.int .i64 5), .lit (.int .i32 8240)], .agg [.lit (.int .i64 6), .lit (.int .i32 164)]]
/-- One of Go's own tables, pinned by name: the form's constant. -/
def laid_unicode_utf8_first : DataW Unit := Go.Pinned.utf8First

/-- 'figureheadlaw14.AffixItems': WHATEVER THE INPUT: true; the input reads as it did. -/
def affixItemsSpec : ChangeSpec := { name := "affixItems", fn := fun _ => fun
  | [d] => { results := [.lit (.bool true)], args := [d] }
  | _ => none }
def affixItemsRow : OpenClaim := { program := "ytcenacecegleeaadoor", sum := "62901bc8af5793f42951e90d1de2cf5141ef59073a9a0e9cce61e7f778d115fb", func := "figurehead/figureheadlaw14.AffixItems", spec := "affixItems", inPlace := ["internal/abi.NoEscape"], unfollowed := true, recurses := true, named := ["unicode/utf8.first", "unicode/utf8.acceptRanges", "figurehead/affix.signs"], apart := false, laid := [("unicode/utf8.acceptRanges", laid_unicode_utf8_acceptRanges), ("figurehead/affix.signs", laid_figurehead_affix_signs), ("unicode/utf8.first", laid_unicode_utf8_first)] }
def AffixItemsSaid : Prop := affixItemsRow.holds Tryd.pinned (OpenSpec.ofChange affixItemsSpec)

/-- ITS FALSE NEIGHBOUR: 'it returns false'. Refute it at one input. -/
def affixItemsWrong : ChangeSpec := { name := "affixItems", fn := fun _ => fun
  | [d] => { results := [.lit (.bool false)], args := [d] }
  | _ => none }
def AffixItemsWrongFalsely : Prop := affixItemsRow.holds Tryd.pinned (OpenSpec.ofChange affixItemsWrong)

/-- 'figureheadlaw14.AffixTokens': WHATEVER THE INPUT: true; the input reads as it did. -/
def affixTokensSpec : ChangeSpec := { name := "affixTokens", fn := fun _ => fun
  | [d] => { results := [.lit (.bool true)], args := [d] }
  | _ => none }
def affixTokensRow : OpenClaim := { program := "ytcenacecegleeaadoor", sum := "62901bc8af5793f42951e90d1de2cf5141ef59073a9a0e9cce61e7f778d115fb", func := "figurehead/figureheadlaw14.AffixTokens", spec := "affixTokens", inPlace := ["internal/abi.NoEscape"], unfollowed := true, recurses := true, named := ["unicode/utf8.first", "unicode/utf8.acceptRanges", "figurehead/affix.signs"], apart := false, laid := [("unicode/utf8.acceptRanges", laid_unicode_utf8_acceptRanges), ("figurehead/affix.signs", laid_figurehead_affix_signs), ("unicode/utf8.first", laid_unicode_utf8_first)] }
def AffixTokensSaid : Prop := affixTokensRow.holds Tryd.pinned (OpenSpec.ofChange affixTokensSpec)

/-- ITS FALSE NEIGHBOUR: 'it returns false'. Refute it at one input. -/
def affixTokensWrong : ChangeSpec := { name := "affixTokens", fn := fun _ => fun
  | [d] => { results := [.lit (.bool false)], args := [d] }
  | _ => none }
def AffixTokensWrongFalsely : Prop := affixTokensRow.holds Tryd.pinned (OpenSpec.ofChange affixTokensWrong)

/-- 'figureheadlaw14.AffixBack': WHATEVER THE INPUT: true; the input reads as it did. -/
def affixBackSpec : ChangeSpec := { name := "affixBack", fn := fun _ => fun
  | [d] => { results := [.lit (.bool true)], args := [d] }
  | _ => none }
def affixBackRow : OpenClaim := { program := "ytcenacecegleeaadoor", sum := "62901bc8af5793f42951e90d1de2cf5141ef59073a9a0e9cce61e7f778d115fb", func := "figurehead/figureheadlaw14.AffixBack", spec := "affixBack", inPlace := ["internal/abi.NoEscape"], unfollowed := true, recurses := true, named := ["unicode/utf8.first", "unicode/utf8.acceptRanges", "figurehead/affix.signs"], apart := false, laid := [("unicode/utf8.acceptRanges", laid_unicode_utf8_acceptRanges), ("figurehead/affix.signs", laid_figurehead_affix_signs), ("unicode/utf8.first", laid_unicode_utf8_first)] }
def AffixBackSaid : Prop := affixBackRow.holds Tryd.pinned (OpenSpec.ofChange affixBackSpec)

/-- ITS FALSE NEIGHBOUR: 'it returns false'. Refute it at one input. -/
def affixBackWrong : ChangeSpec := { name := "affixBack", fn := fun _ => fun
  | [d] => { results := [.lit (.bool false)], args := [d] }
  | _ => none }
def AffixBackWrongFalsely : Prop := affixBackRow.holds Tryd.pinned (OpenSpec.ofChange affixBackWrong)

/-- 'figureheadlaw14.AffixNeeds': WHATEVER THE INPUT: true; the input reads as it did. -/
def affixNeedsSpec : ChangeSpec := { name := "affixNeeds", fn := fun _ => fun
  | [d] => { results := [.lit (.bool true)], args := [d] }
  | _ => none }
def affixNeedsRow : OpenClaim := { program := "ytcenacecegleeaadoor", sum := "62901bc8af5793f42951e90d1de2cf5141ef59073a9a0e9cce61e7f778d115fb", func := "figurehead/figureheadlaw14.AffixNeeds", spec := "affixNeeds", inPlace := ["internal/abi.NoEscape"], unfollowed := true, recurses := true, named := ["figurehead/affix.signs", "unicode/utf8.first", "unicode/utf8.acceptRanges"], apart := false, laid := [("unicode/utf8.acceptRanges", laid_unicode_utf8_acceptRanges), ("figurehead/affix.signs", laid_figurehead_affix_signs), ("unicode/utf8.first", laid_unicode_utf8_first)] }
def AffixNeedsSaid : Prop := affixNeedsRow.holds Tryd.pinned (OpenSpec.ofChange affixNeedsSpec)

/-- ITS FALSE NEIGHBOUR: 'it returns false'. Refute it at one input. -/
def affixNeedsWrong : ChangeSpec := { name := "affixNeeds", fn := fun _ => fun
  | [d] => { results := [.lit (.bool false)], args := [d] }
  | _ => none }
def AffixNeedsWrongFalsely : Prop := affixNeedsRow.holds Tryd.pinned (OpenSpec.ofChange affixNeedsWrong)

/-- 'figureheadlaw14.AffixMarks': WHATEVER THE INPUT: true; the input reads as it did. -/
def affixMarksSpec : ChangeSpec := { name := "affixMarks", fn := fun _ => fun
  | [d1, d2] => { results := [.lit (.bool true)], args := [d1, d2] }
  | _ => none }
def affixMarksRow : OpenClaim := { program := "ytcenacecegleeaadoor", sum := "62901bc8af5793f42951e90d1de2cf5141ef59073a9a0e9cce61e7f778d115fb", func := "figurehead/figureheadlaw14.AffixMarks", spec := "affixMarks", inPlace := ["internal/abi.NoEscape"], unfollowed := true, recurses := true, named := ["figurehead/affix.signs", "unicode/utf8.first", "unicode/utf8.acceptRanges"], apart := false, laid := [("unicode/utf8.acceptRanges", laid_unicode_utf8_acceptRanges), ("figurehead/affix.signs", laid_figurehead_affix_signs), ("unicode/utf8.first", laid_unicode_utf8_first)] }
def AffixMarksSaid : Prop := affixMarksRow.holds Tryd.pinned (OpenSpec.ofChange affixMarksSpec)

/-- ITS FALSE NEIGHBOUR: 'it returns false'. Refute it at one input. -/
def affixMarksWrong : ChangeSpec := { name := "affixMarks", fn := fun _ => fun
  | [d1, d2] => { results := [.lit (.bool false)], args := [d1, d2] }
  | _ => none }
def AffixMarksWrongFalsely : Prop := affixMarksRow.holds Tryd.pinned (OpenSpec.ofChange affixMarksWrong)

/- THE SECOND FORM. 'bulk': how many values and letters a reading holds, each counted each time it is reached (what is shared counts as often as it is met; a slice's spare places count too). A statement '..UptoSaid' is the law's where the arguments, and the package variables that the reading takes, are together of bulk at most 1048576: NARROWER than '..Said'. Prove '..Said' where nothing that the law and all that it calls make is longer than what came in: it says more and counts as full. Else prove '..UptoSaid'. A law counts once. -/
mutual
def uptoBulk {H : Type} : DataW H → Nat
  | .lit (.string bytes) => bytes.length + 1
  | .lit _ => 1
  | .nil => 1
  | .ptr d => uptoBulk d + 1
  | .slice elems spare => uptoBulkAll elems + uptoBulkAll spare + 1
  | .agg parts => uptoBulkAll parts + 1
  | .iface _ d => uptoBulk d + 1
  | .map entries => uptoBulkEntries entries + 1
  | .held _ => 1
def uptoBulkAll {H : Type} : List (DataW H) → Nat
  | [] => 0
  | d :: r => uptoBulk d + uptoBulkAll r
def uptoBulkEntries {H : Type} : List (Lit × DataW H) → Nat
  | [] => 0
  | x :: r => uptoBulkEntry x + uptoBulkEntries r
def uptoBulkEntry {H : Type} : Lit × DataW H → Nat
  | (.string bytes, d) => bytes.length + uptoBulk d + 1
  | (_, d) => uptoBulk d + 1
 end
def uptoSmall : (H : Type) → List (DataW H) → Bool := fun _ ds => decide (uptoBulkAll ds ≤ 1048576)
def OpenSpec.upto (s : _root_.Go.ChangeSpec) : _root_.Go.OpenSpec := { _root_.Go.OpenSpec.ofChange s with cond := some uptoSmall }

/-- 'figureheadlaw14.AffixItems', WHERE WHAT IT READS IS OF BULK AT MOST 1048576: true; the input reads as it did. -/
def affixItemsUptoRow : OpenClaim := { program := "ytcenacecegleeaadoor", sum := "62901bc8af5793f42951e90d1de2cf5141ef59073a9a0e9cce61e7f778d115fb", func := "figurehead/figureheadlaw14.AffixItems", spec := "affixItems", inPlace := ["internal/abi.NoEscape"], unfollowed := true, recurses := true, named := ["unicode/utf8.first", "unicode/utf8.acceptRanges", "figurehead/affix.signs"], apart := false, laid := [("unicode/utf8.acceptRanges", laid_unicode_utf8_acceptRanges), ("figurehead/affix.signs", laid_figurehead_affix_signs), ("unicode/utf8.first", laid_unicode_utf8_first)], narrowed := true }
def AffixItemsUptoSaid : Prop := affixItemsUptoRow.holds Tryd.pinned (OpenSpec.upto affixItemsSpec)

/-- 'figureheadlaw14.AffixTokens', WHERE WHAT IT READS IS OF BULK AT MOST 1048576: true; the input reads as it did. -/
def affixTokensUptoRow : OpenClaim := { program := "ytcenacecegleeaadoor", sum := "62901bc8af5793f42951e90d1de2cf5141ef59073a9a0e9cce61e7f778d115fb", func := "figurehead/figureheadlaw14.AffixTokens", spec := "affixTokens", inPlace := ["internal/abi.NoEscape"], unfollowed := true, recurses := true, named := ["unicode/utf8.first", "unicode/utf8.acceptRanges", "figurehead/affix.signs"], apart := false, laid := [("unicode/utf8.acceptRanges", laid_unicode_utf8_acceptRanges), ("figurehead/affix.signs", laid_figurehead_affix_signs), ("unicode/utf8.first", laid_unicode_utf8_first)], narrowed := true }
def AffixTokensUptoSaid : Prop := affixTokensUptoRow.holds Tryd.pinned (OpenSpec.upto affixTokensSpec)

/-- 'figureheadlaw14.AffixBack', WHERE WHAT IT READS IS OF BULK AT MOST 1048576: true; the input reads as it did. -/
def affixBackUptoRow : OpenClaim := { program := "ytcenacecegleeaadoor", sum := "62901bc8af5793f42951e90d1de2cf5141ef59073a9a0e9cce61e7f778d115fb", func := "figurehead/figureheadlaw14.AffixBack", spec := "affixBack", inPlace := ["internal/abi.NoEscape"], unfollowed := true, recurses := true, named := ["unicode/utf8.first", "unicode/utf8.acceptRanges", "figurehead/affix.signs"], apart := false, laid := [("unicode/utf8.acceptRanges", laid_unicode_utf8_acceptRanges), ("figurehead/affix.signs", laid_figurehead_affix_signs), ("unicode/utf8.first", laid_unicode_utf8_first)], narrowed := true }
def AffixBackUptoSaid : Prop := affixBackUptoRow.holds Tryd.pinned (OpenSpec.upto affixBackSpec)

/-- 'figureheadlaw14.AffixNeeds', WHERE WHAT IT READS IS OF BULK AT MOST 1048576: true; the input reads as it did. -/
def affixNeedsUptoRow : OpenClaim := { program := "ytcenacecegleeaadoor", sum := "62901bc8af5793f42951e90d1de2cf5141ef59073a9a0e9cce61e7f778d115fb", func := "figurehead/figureheadlaw14.AffixNeeds", spec := "affixNeeds", inPlace := ["internal/abi.NoEscape"], unfollowed := true, recurses := true, named := ["figurehead/affix.signs", "unicode/utf8.first", "unicode/utf8.acceptRanges"], apart := false, laid := [("unicode/utf8.acceptRanges", laid_unicode_utf8_acceptRanges), ("figurehead/affix.signs", laid_figurehead_affix_signs), ("unicode/utf8.first", laid_unicode_utf8_first)], narrowed := true }
def AffixNeedsUptoSaid : Prop := affixNeedsUptoRow.holds Tryd.pinned (OpenSpec.upto affixNeedsSpec)

/-- 'figureheadlaw14.AffixMarks', WHERE WHAT IT READS IS OF BULK AT MOST 1048576: true; the input reads as it did. -/
def affixMarksUptoRow : OpenClaim := { program := "ytcenacecegleeaadoor", sum := "62901bc8af5793f42951e90d1de2cf5141ef59073a9a0e9cce61e7f778d115fb", func := "figurehead/figureheadlaw14.AffixMarks", spec := "affixMarks", inPlace := ["internal/abi.NoEscape"], unfollowed := true, recurses := true, named := ["figurehead/affix.signs", "unicode/utf8.first", "unicode/utf8.acceptRanges"], apart := false, laid := [("unicode/utf8.acceptRanges", laid_unicode_utf8_acceptRanges), ("figurehead/affix.signs", laid_figurehead_affix_signs), ("unicode/utf8.first", laid_unicode_utf8_first)], narrowed := true }
def AffixMarksUptoSaid : Prop := affixMarksUptoRow.holds Tryd.pinned (OpenSpec.upto affixMarksSpec)

end Rows
end Go.Proofs.YtcenacecegleeaaDoor
