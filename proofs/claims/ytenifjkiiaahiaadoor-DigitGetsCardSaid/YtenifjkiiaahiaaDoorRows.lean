/-
  NARROWER THAN 'FOR EVERY INPUT', by the rows' own cells (each row's printed sentence says how): UtfRunes: laid · UtfTexts: laid · UtfJoins: laid · UtfTurned: laid · UtfCuts: laid · DigitSystems: laid · DigitPuts: laid · DigitGets: laid · DigitMixed: laid · DigitJoins: laid.
  DERIVED. THE GIVEN ROWS OF THIS SEAT. 10 by the template 'for every input the law returns true; each argument reads behind the call as it read before'; 0 by the template 'total and deterministic' (their statements: YtenifjkiiaahiaaDoorTotals.lean).
  GIVEN WITH THE SEED: the statements are not yours to turn. If you find one false, say at which input.
  Laid BY PROGRAM, IN A SANDBOX (cutbox-rows.mjs): the forced cells as the released guide's own fill.sh prints them over the translation 46465ccc1414f58a… (all of the seat's roots in one cut). By AI agents, Wed Nov 11 2026. No macro, syntax, notation, axiom, sorry.
-/
import Derived.Test.YtenifjkiiaahiaaDoorChecked
import GoSem.PinnedTables
import GoSem.Claim
import GoSem.ClaimJoined
import GoSem.ClaimMapViews
import Derived.JoinedTies
import Derived.KernelRfl
namespace Go.Proofs.YtenifjkiiaahiaaDoor
/- THE CELL 'sum', in the pinned program and in every row, IS THE sha256 OF THE DUMP (.gsa) THAT YtenifjkiiaahiaaDoorProg.lean LOADS. Nothing in Lean hashes anything: it is a label: what it is worth is what the hold of that sum in a sandbox is worth. -/
noncomputable def Tryd.pinned : Pinned := { name := "ytenifjkiiaahiaadoor", sum := "46465ccc1414f58a34973c97a91041102537a7177d426d25b7137cace0873f5a", checked := Tryd.checked }
namespace Rows
def none {H : Type} : Left H := { results := [], args := [] }

/- WHAT THE LISTED PACKAGE-LEVEL VARIABLES READ AS WHEN THE CALL BEGINS. Each datum BY PROGRAM (the guide's laid-datum.mjs) off the statement by which the dump's own 'gosem.cut.vars' lays the variable. In a bare row this is a premise. The card (YtenifjkiiaahiaaDoorCards.lean) ties it to the program's text. -/
def laid_unicode_utf8_acceptRanges {H : Type} : DataW H := .agg [.agg [.lit (.int .u8 128), .lit (.int .u8 191)], .agg [.lit (.int .u8 160), .lit (.int .u8 191)], .agg [.lit (.int .u8 128), .lit (.int .u8 159)], .agg [.lit (.int .u8 144), .lit (.int .u8 191)], .agg [.lit (.int .u8 128), .lit (.int .u8 143)], .agg [.lit (.int .u8 0), .lit (.int .u8 0)], .agg [.lit (.int .u8 0), .lit (.int .u8 0)], .agg [.lit (.int .u8 0), .lit (.int .u8 0)], .agg [.lit (.int .u8 0), .lit (.int .u8 0)], .agg [.lit (.int .u8 0), .lit (.int .u8 0)], .agg [.lit (.int .u8 0), .lit (.int .u8 0)], .agg [.lit (.int .u8 0), .lit (.int .u8 0)], .agg [.lit (.int .u8 0), .lit (.int .u8 0)], .agg [.lit (.int .u8 0), .lit (.int .u8 0)], .agg [.lit (.int .u8 0), .lit (.int .u8 0)], .agg [.lit (.int .u8 0), .lit (.int .u8 0)]]
/-- One of Go's own tables, pinned by name: the form's constant. -/
def laid_unicode_utf8_first : DataW Unit := Go.Pinned.utf8First

/-- 'figureheadlaw11.UtfRunes': WHATEVER THE INPUT: true; the input reads as it did. -/
def utfRunesSpec : ChangeSpec := { name := "utfRunes", fn := fun _ => fun
  | [d] => { results := [.lit (.bool true)], args := [d] }
  | _ => none }
def utfRunesRow : OpenClaim := { program := "ytenifjkiiaahiaadoor", sum := "46465ccc1414f58a34973c97a91041102537a7177d426d25b7137cace0873f5a", func := "figurehead/figureheadlaw11.UtfRunes", spec := "utfRunes", inPlace := ["internal/abi.NoEscape"], named := ["unicode/utf8.first", "unicode/utf8.acceptRanges"], apart := false, laid := [("unicode/utf8.acceptRanges", laid_unicode_utf8_acceptRanges), ("unicode/utf8.first", laid_unicode_utf8_first)] }
def UtfRunesSaid : Prop := utfRunesRow.holds Tryd.pinned (OpenSpec.ofChange utfRunesSpec)

/-- ITS FALSE NEIGHBOUR: 'it returns false'. Refute it at one input. -/
def utfRunesWrong : ChangeSpec := { name := "utfRunes", fn := fun _ => fun
  | [d] => { results := [.lit (.bool false)], args := [d] }
  | _ => none }
def UtfRunesWrongFalsely : Prop := utfRunesRow.holds Tryd.pinned (OpenSpec.ofChange utfRunesWrong)

/-- 'figureheadlaw11.UtfTexts': WHATEVER THE INPUT: true; the input reads as it did. -/
def utfTextsSpec : ChangeSpec := { name := "utfTexts", fn := fun _ => fun
  | [d] => { results := [.lit (.bool true)], args := [d] }
  | _ => none }
def utfTextsRow : OpenClaim := { program := "ytenifjkiiaahiaadoor", sum := "46465ccc1414f58a34973c97a91041102537a7177d426d25b7137cace0873f5a", func := "figurehead/figureheadlaw11.UtfTexts", spec := "utfTexts", inPlace := ["internal/abi.NoEscape"], named := ["unicode/utf8.first", "unicode/utf8.acceptRanges"], apart := false, laid := [("unicode/utf8.acceptRanges", laid_unicode_utf8_acceptRanges), ("unicode/utf8.first", laid_unicode_utf8_first)] }
def UtfTextsSaid : Prop := utfTextsRow.holds Tryd.pinned (OpenSpec.ofChange utfTextsSpec)

/-- ITS FALSE NEIGHBOUR: 'it returns false'. Refute it at one input. -/
def utfTextsWrong : ChangeSpec := { name := "utfTexts", fn := fun _ => fun
  | [d] => { results := [.lit (.bool false)], args := [d] }
  | _ => none }
def UtfTextsWrongFalsely : Prop := utfTextsRow.holds Tryd.pinned (OpenSpec.ofChange utfTextsWrong)

/-- 'figureheadlaw11.UtfJoins': WHATEVER THE INPUT: true; the input reads as it did. -/
def utfJoinsSpec : ChangeSpec := { name := "utfJoins", fn := fun _ => fun
  | [d1, d2] => { results := [.lit (.bool true)], args := [d1, d2] }
  | _ => none }
def utfJoinsRow : OpenClaim := { program := "ytenifjkiiaahiaadoor", sum := "46465ccc1414f58a34973c97a91041102537a7177d426d25b7137cace0873f5a", func := "figurehead/figureheadlaw11.UtfJoins", spec := "utfJoins", inPlace := ["internal/abi.NoEscape"], named := ["unicode/utf8.first", "unicode/utf8.acceptRanges"], apart := false, laid := [("unicode/utf8.acceptRanges", laid_unicode_utf8_acceptRanges), ("unicode/utf8.first", laid_unicode_utf8_first)] }
def UtfJoinsSaid : Prop := utfJoinsRow.holds Tryd.pinned (OpenSpec.ofChange utfJoinsSpec)

/-- ITS FALSE NEIGHBOUR: 'it returns false'. Refute it at one input. -/
def utfJoinsWrong : ChangeSpec := { name := "utfJoins", fn := fun _ => fun
  | [d1, d2] => { results := [.lit (.bool false)], args := [d1, d2] }
  | _ => none }
def UtfJoinsWrongFalsely : Prop := utfJoinsRow.holds Tryd.pinned (OpenSpec.ofChange utfJoinsWrong)

/-- 'figureheadlaw11.UtfTurned': WHATEVER THE INPUT: true; the input reads as it did. -/
def utfTurnedSpec : ChangeSpec := { name := "utfTurned", fn := fun _ => fun
  | [d1, d2, d3] => { results := [.lit (.bool true)], args := [d1, d2, d3] }
  | _ => none }
def utfTurnedRow : OpenClaim := { program := "ytenifjkiiaahiaadoor", sum := "46465ccc1414f58a34973c97a91041102537a7177d426d25b7137cace0873f5a", func := "figurehead/figureheadlaw11.UtfTurned", spec := "utfTurned", inPlace := ["internal/abi.NoEscape"], named := ["unicode/utf8.first", "unicode/utf8.acceptRanges"], apart := false, laid := [("unicode/utf8.acceptRanges", laid_unicode_utf8_acceptRanges), ("unicode/utf8.first", laid_unicode_utf8_first)] }
def UtfTurnedSaid : Prop := utfTurnedRow.holds Tryd.pinned (OpenSpec.ofChange utfTurnedSpec)

/-- ITS FALSE NEIGHBOUR: 'it returns false'. Refute it at one input. -/
def utfTurnedWrong : ChangeSpec := { name := "utfTurned", fn := fun _ => fun
  | [d1, d2, d3] => { results := [.lit (.bool false)], args := [d1, d2, d3] }
  | _ => none }
def UtfTurnedWrongFalsely : Prop := utfTurnedRow.holds Tryd.pinned (OpenSpec.ofChange utfTurnedWrong)

/-- 'figureheadlaw11.UtfCuts': WHATEVER THE INPUT: true; the input reads as it did. -/
def utfCutsSpec : ChangeSpec := { name := "utfCuts", fn := fun _ => fun
  | [d1, d2] => { results := [.lit (.bool true)], args := [d1, d2] }
  | _ => none }
def utfCutsRow : OpenClaim := { program := "ytenifjkiiaahiaadoor", sum := "46465ccc1414f58a34973c97a91041102537a7177d426d25b7137cace0873f5a", func := "figurehead/figureheadlaw11.UtfCuts", spec := "utfCuts", inPlace := ["internal/abi.NoEscape"], named := ["unicode/utf8.first", "unicode/utf8.acceptRanges"], apart := false, laid := [("unicode/utf8.acceptRanges", laid_unicode_utf8_acceptRanges), ("unicode/utf8.first", laid_unicode_utf8_first)] }
def UtfCutsSaid : Prop := utfCutsRow.holds Tryd.pinned (OpenSpec.ofChange utfCutsSpec)

/-- ITS FALSE NEIGHBOUR: 'it returns false'. Refute it at one input. -/
def utfCutsWrong : ChangeSpec := { name := "utfCuts", fn := fun _ => fun
  | [d1, d2] => { results := [.lit (.bool false)], args := [d1, d2] }
  | _ => none }
def UtfCutsWrongFalsely : Prop := utfCutsRow.holds Tryd.pinned (OpenSpec.ofChange utfCutsWrong)

/-- 'figureheadlaw12.DigitSystems': WHATEVER THE INPUT: true; the input reads as it did. -/
def digitSystemsSpec : ChangeSpec := { name := "digitSystems", fn := fun _ => fun
  | [d1, d2] => { results := [.lit (.bool true)], args := [d1, d2] }
  | _ => none }
def digitSystemsRow : OpenClaim := { program := "ytenifjkiiaahiaadoor", sum := "46465ccc1414f58a34973c97a91041102537a7177d426d25b7137cace0873f5a", func := "figurehead/figureheadlaw12.DigitSystems", spec := "digitSystems", inPlace := ["internal/abi.NoEscape"], named := ["unicode/utf8.first", "unicode/utf8.acceptRanges"], apart := false, laid := [("unicode/utf8.acceptRanges", laid_unicode_utf8_acceptRanges), ("unicode/utf8.first", laid_unicode_utf8_first)] }
def DigitSystemsSaid : Prop := digitSystemsRow.holds Tryd.pinned (OpenSpec.ofChange digitSystemsSpec)

/-- ITS FALSE NEIGHBOUR: 'it returns false'. Refute it at one input. -/
def digitSystemsWrong : ChangeSpec := { name := "digitSystems", fn := fun _ => fun
  | [d1, d2] => { results := [.lit (.bool false)], args := [d1, d2] }
  | _ => none }
def DigitSystemsWrongFalsely : Prop := digitSystemsRow.holds Tryd.pinned (OpenSpec.ofChange digitSystemsWrong)

/-- 'figureheadlaw12.DigitPuts': WHATEVER THE INPUT: true; the input reads as it did. -/
def digitPutsSpec : ChangeSpec := { name := "digitPuts", fn := fun _ => fun
  | [d1, d2] => { results := [.lit (.bool true)], args := [d1, d2] }
  | _ => none }
def digitPutsRow : OpenClaim := { program := "ytenifjkiiaahiaadoor", sum := "46465ccc1414f58a34973c97a91041102537a7177d426d25b7137cace0873f5a", func := "figurehead/figureheadlaw12.DigitPuts", spec := "digitPuts", inPlace := ["internal/abi.NoEscape"], named := ["unicode/utf8.first", "unicode/utf8.acceptRanges"], apart := false, laid := [("unicode/utf8.acceptRanges", laid_unicode_utf8_acceptRanges), ("unicode/utf8.first", laid_unicode_utf8_first)] }
def DigitPutsSaid : Prop := digitPutsRow.holds Tryd.pinned (OpenSpec.ofChange digitPutsSpec)

/-- ITS FALSE NEIGHBOUR: 'it returns false'. Refute it at one input. -/
def digitPutsWrong : ChangeSpec := { name := "digitPuts", fn := fun _ => fun
  | [d1, d2] => { results := [.lit (.bool false)], args := [d1, d2] }
  | _ => none }
def DigitPutsWrongFalsely : Prop := digitPutsRow.holds Tryd.pinned (OpenSpec.ofChange digitPutsWrong)

/-- 'figureheadlaw12.DigitGets': WHATEVER THE INPUT: true; the input reads as it did. -/
def digitGetsSpec : ChangeSpec := { name := "digitGets", fn := fun _ => fun
  | [d1, d2] => { results := [.lit (.bool true)], args := [d1, d2] }
  | _ => none }
def digitGetsRow : OpenClaim := { program := "ytenifjkiiaahiaadoor", sum := "46465ccc1414f58a34973c97a91041102537a7177d426d25b7137cace0873f5a", func := "figurehead/figureheadlaw12.DigitGets", spec := "digitGets", inPlace := ["internal/abi.NoEscape"], named := ["unicode/utf8.first", "unicode/utf8.acceptRanges"], apart := false, laid := [("unicode/utf8.acceptRanges", laid_unicode_utf8_acceptRanges), ("unicode/utf8.first", laid_unicode_utf8_first)] }
def DigitGetsSaid : Prop := digitGetsRow.holds Tryd.pinned (OpenSpec.ofChange digitGetsSpec)

/-- ITS FALSE NEIGHBOUR: 'it returns false'. Refute it at one input. -/
def digitGetsWrong : ChangeSpec := { name := "digitGets", fn := fun _ => fun
  | [d1, d2] => { results := [.lit (.bool false)], args := [d1, d2] }
  | _ => none }
def DigitGetsWrongFalsely : Prop := digitGetsRow.holds Tryd.pinned (OpenSpec.ofChange digitGetsWrong)

/-- 'figureheadlaw12.DigitMixed': WHATEVER THE INPUT: true; the input reads as it did. -/
def digitMixedSpec : ChangeSpec := { name := "digitMixed", fn := fun _ => fun
  | [d1, d2, d3, d4] => { results := [.lit (.bool true)], args := [d1, d2, d3, d4] }
  | _ => none }
def digitMixedRow : OpenClaim := { program := "ytenifjkiiaahiaadoor", sum := "46465ccc1414f58a34973c97a91041102537a7177d426d25b7137cace0873f5a", func := "figurehead/figureheadlaw12.DigitMixed", spec := "digitMixed", inPlace := ["internal/abi.NoEscape"], named := ["unicode/utf8.first", "unicode/utf8.acceptRanges"], apart := false, laid := [("unicode/utf8.acceptRanges", laid_unicode_utf8_acceptRanges), ("unicode/utf8.first", laid_unicode_utf8_first)] }
def DigitMixedSaid : Prop := digitMixedRow.holds Tryd.pinned (OpenSpec.ofChange digitMixedSpec)

/-- ITS FALSE NEIGHBOUR: 'it returns false'. Refute it at one input. -/
def digitMixedWrong : ChangeSpec := { name := "digitMixed", fn := fun _ => fun
  | [d1, d2, d3, d4] => { results := [.lit (.bool false)], args := [d1, d2, d3, d4] }
  | _ => none }
def DigitMixedWrongFalsely : Prop := digitMixedRow.holds Tryd.pinned (OpenSpec.ofChange digitMixedWrong)

/-- 'figureheadlaw12.DigitJoins': WHATEVER THE INPUT: true; the input reads as it did. -/
def digitJoinsSpec : ChangeSpec := { name := "digitJoins", fn := fun _ => fun
  | [d1, d2, d3, d4] => { results := [.lit (.bool true)], args := [d1, d2, d3, d4] }
  | _ => none }
def digitJoinsRow : OpenClaim := { program := "ytenifjkiiaahiaadoor", sum := "46465ccc1414f58a34973c97a91041102537a7177d426d25b7137cace0873f5a", func := "figurehead/figureheadlaw12.DigitJoins", spec := "digitJoins", inPlace := ["internal/abi.NoEscape"], named := ["unicode/utf8.first", "unicode/utf8.acceptRanges"], apart := false, laid := [("unicode/utf8.acceptRanges", laid_unicode_utf8_acceptRanges), ("unicode/utf8.first", laid_unicode_utf8_first)] }
def DigitJoinsSaid : Prop := digitJoinsRow.holds Tryd.pinned (OpenSpec.ofChange digitJoinsSpec)

/-- ITS FALSE NEIGHBOUR: 'it returns false'. Refute it at one input. -/
def digitJoinsWrong : ChangeSpec := { name := "digitJoins", fn := fun _ => fun
  | [d1, d2, d3, d4] => { results := [.lit (.bool false)], args := [d1, d2, d3, d4] }
  | _ => none }
def DigitJoinsWrongFalsely : Prop := digitJoinsRow.holds Tryd.pinned (OpenSpec.ofChange digitJoinsWrong)

/- THE SECOND FORM. 'bulk': how many values and letters a reading holds, each counted each time it is reached (what is shared counts as often as it is met; a slice's spare places count too). A statement '..UptoSaid' is the law's where the arguments, and the package variables that the reading takes, are together of bulk at most 1048576: NARROWER than '..Said'. Prove '..Said' where nothing that the law and all that it calls make is longer than what came in: it says more and counts as full. Else prove '..UptoSaid'. A law counts once. -/
mutual
def uptoBulk {H : Type} : DataW H → Nat
  | .lit (.string bytes) => bytes.length + 1
  | .lit _ => 1
  | .nil => 1
  | .ptr d => uptoBulk d + 1
  | .slice elems spare => uptoBulkAll elems + uptoBulkAll spare + 1
  | .agg parts => uptoBulkAll parts + 1
  | .iface _ d => uptoBulk d + 1
  | .map entries => uptoBulkEntries entries + 1
  | .held _ => 1
def uptoBulkAll {H : Type} : List (DataW H) → Nat
  | [] => 0
  | d :: r => uptoBulk d + uptoBulkAll r
def uptoBulkEntries {H : Type} : List (Lit × DataW H) → Nat
  | [] => 0
  | x :: r => uptoBulkEntry x + uptoBulkEntries r
def uptoBulkEntry {H : Type} : Lit × DataW H → Nat
  | (.string bytes, d) => bytes.length + uptoBulk d + 1
  | (_, d) => uptoBulk d + 1
 end
def uptoSmall : (H : Type) → List (DataW H) → Bool := fun _ ds => decide (uptoBulkAll ds ≤ 1048576)
def OpenSpec.upto (s : _root_.Go.ChangeSpec) : _root_.Go.OpenSpec := { _root_.Go.OpenSpec.ofChange s with cond := some uptoSmall }

/-- 'figureheadlaw11.UtfRunes', WHERE WHAT IT READS IS OF BULK AT MOST 1048576: true; the input reads as it did. -/
def utfRunesUptoRow : OpenClaim := { program := "ytenifjkiiaahiaadoor", sum := "46465ccc1414f58a34973c97a91041102537a7177d426d25b7137cace0873f5a", func := "figurehead/figureheadlaw11.UtfRunes", spec := "utfRunes", inPlace := ["internal/abi.NoEscape"], named := ["unicode/utf8.first", "unicode/utf8.acceptRanges"], apart := false, laid := [("unicode/utf8.acceptRanges", laid_unicode_utf8_acceptRanges), ("unicode/utf8.first", laid_unicode_utf8_first)], narrowed := true }
def UtfRunesUptoSaid : Prop := utfRunesUptoRow.holds Tryd.pinned (OpenSpec.upto utfRunesSpec)

/-- 'figureheadlaw11.UtfTexts', WHERE WHAT IT READS IS OF BULK AT MOST 1048576: true; the input reads as it did. -/
def utfTextsUptoRow : OpenClaim := { program := "ytenifjkiiaahiaadoor", sum := "46465ccc1414f58a34973c97a91041102537a7177d426d25b7137cace0873f5a", func := "figurehead/figureheadlaw11.UtfTexts", spec := "utfTexts", inPlace := ["internal/abi.NoEscape"], named := ["unicode/utf8.first", "unicode/utf8.acceptRanges"], apart := false, laid := [("unicode/utf8.acceptRanges", laid_unicode_utf8_acceptRanges), ("unicode/utf8.first", laid_unicode_utf8_first)], narrowed := true }
def UtfTextsUptoSaid : Prop := utfTextsUptoRow.holds Tryd.pinned (OpenSpec.upto utfTextsSpec)

/-- 'figureheadlaw11.UtfJoins', WHERE WHAT IT READS IS OF BULK AT MOST 1048576: true; the input reads as it did. -/
def utfJoinsUptoRow : OpenClaim := { program := "ytenifjkiiaahiaadoor", sum := "46465ccc1414f58a34973c97a91041102537a7177d426d25b7137cace0873f5a", func := "figurehead/figureheadlaw11.UtfJoins", spec := "utfJoins", inPlace := ["internal/abi.NoEscape"], named := ["unicode/utf8.first", "unicode/utf8.acceptRanges"], apart := false, laid := [("unicode/utf8.acceptRanges", laid_unicode_utf8_acceptRanges), ("unicode/utf8.first", laid_unicode_utf8_first)], narrowed := true }
def UtfJoinsUptoSaid : Prop := utfJoinsUptoRow.holds Tryd.pinned (OpenSpec.upto utfJoinsSpec)

/-- 'figureheadlaw11.UtfTurned', WHERE WHAT IT READS IS OF BULK AT MOST 1048576: true; the input reads as it did. -/
def utfTurnedUptoRow : OpenClaim := { program := "ytenifjkiiaahiaadoor", sum := "46465ccc1414f58a34973c97a91041102537a7177d426d25b7137cace0873f5a", func := "figurehead/figureheadlaw11.UtfTurned", spec := "utfTurned", inPlace := ["internal/abi.NoEscape"], named := ["unicode/utf8.first", "unicode/utf8.acceptRanges"], apart := false, laid := [("unicode/utf8.acceptRanges", laid_unicode_utf8_acceptRanges), ("unicode/utf8.first", laid_unicode_utf8_first)], narrowed := true }
def UtfTurnedUptoSaid : Prop := utfTurnedUptoRow.holds Tryd.pinned (OpenSpec.upto utfTurnedSpec)

/-- 'figureheadlaw11.UtfCuts', WHERE WHAT IT READS IS OF BULK AT MOST 1048576: true; the input reads as it did. -/
def utfCutsUptoRow : OpenClaim := { program := "ytenifjkiiaahiaadoor", sum := "46465ccc1414f58a34973c97a91041102537a7177d426d25b7137cace0873f5a", func := "figurehead/figureheadlaw11.UtfCuts", spec := "utfCuts", inPlace := ["internal/abi.NoEscape"], named := ["unicode/utf8.first", "unicode/utf8.acceptRanges"], apart := false, laid := [("unicode/utf8.acceptRanges", laid_unicode_utf8_acceptRanges), ("unicode/utf8.first", laid_unicode_utf8_first)], narrowed := true }
def UtfCutsUptoSaid : Prop := utfCutsUptoRow.holds Tryd.pinned (OpenSpec.upto utfCutsSpec)

/-- 'figureheadlaw12.DigitSystems', WHERE WHAT IT READS IS OF BULK AT MOST 1048576: true; the input reads as it did. -/
def digitSystemsUptoRow : OpenClaim := { program := "ytenifjkiiaahiaadoor", sum := "46465ccc1414f58a34973c97a91041102537a7177d426d25b7137cace0873f5a", func := "figurehead/figureheadlaw12.DigitSystems", spec := "digitSystems", inPlace := ["internal/abi.NoEscape"], named := ["unicode/utf8.first", "unicode/utf8.acceptRanges"], apart := false, laid := [("unicode/utf8.acceptRanges", laid_unicode_utf8_acceptRanges), ("unicode/utf8.first", laid_unicode_utf8_first)], narrowed := true }
def DigitSystemsUptoSaid : Prop := digitSystemsUptoRow.holds Tryd.pinned (OpenSpec.upto digitSystemsSpec)

/-- 'figureheadlaw12.DigitPuts', WHERE WHAT IT READS IS OF BULK AT MOST 1048576: true; the input reads as it did. -/
def digitPutsUptoRow : OpenClaim := { program := "ytenifjkiiaahiaadoor", sum := "46465ccc1414f58a34973c97a91041102537a7177d426d25b7137cace0873f5a", func := "figurehead/figureheadlaw12.DigitPuts", spec := "digitPuts", inPlace := ["internal/abi.NoEscape"], named := ["unicode/utf8.first", "unicode/utf8.acceptRanges"], apart := false, laid := [("unicode/utf8.acceptRanges", laid_unicode_utf8_acceptRanges), ("unicode/utf8.first", laid_unicode_utf8_first)], narrowed := true }
def DigitPutsUptoSaid : Prop := digitPutsUptoRow.holds Tryd.pinned (OpenSpec.upto digitPutsSpec)

/-- 'figureheadlaw12.DigitGets', WHERE WHAT IT READS IS OF BULK AT MOST 1048576: true; the input reads as it did. -/
def digitGetsUptoRow : OpenClaim := { program := "ytenifjkiiaahiaadoor", sum := "46465ccc1414f58a34973c97a91041102537a7177d426d25b7137cace0873f5a", func := "figurehead/figureheadlaw12.DigitGets", spec := "digitGets", inPlace := ["internal/abi.NoEscape"], named := ["unicode/utf8.first", "unicode/utf8.acceptRanges"], apart := false, laid := [("unicode/utf8.acceptRanges", laid_unicode_utf8_acceptRanges), ("unicode/utf8.first", laid_unicode_utf8_first)], narrowed := true }
def DigitGetsUptoSaid : Prop := digitGetsUptoRow.holds Tryd.pinned (OpenSpec.upto digitGetsSpec)

/-- 'figureheadlaw12.DigitMixed', WHERE WHAT IT READS IS OF BULK AT MOST 1048576: true; the input reads as it did. -/
def digitMixedUptoRow : OpenClaim := { program := "ytenifjkiiaahiaadoor", sum := "46465ccc1414f58a34973c97a91041102537a7177d426d25b7137cace0873f5a", func := "figurehead/figureheadlaw12.DigitMixed", spec := "digitMixed", inPlace := ["internal/abi.NoEscape"], named := ["unicode/utf8.first", "unicode/utf8.acceptRanges"], apart := false, laid := [("unicode/utf8.acceptRanges", laid_unicode_utf8_acceptRanges), ("unicode/utf8.first", laid_unicode_utf8_first)], narrowed := true }
def DigitMixedUptoSaid : Prop := digitMixedUptoRow.holds Tryd.pinned (OpenSpec.upto digitMixedSpec)

/-- 'figureheadlaw12.DigitJoins', WHERE WHAT IT READS IS OF BULK AT MOST 1048576: true; the input reads as it did. -/
def digitJoinsUptoRow : OpenClaim := { program := "ytenifjkiiaahiaadoor", sum := "46465ccc1414f58a34973c97a91041102537a7177d426d25b7137cace0873f5a", func := "figurehead/figureheadlaw12.DigitJoins", spec := "digitJoins", inPlace := ["internal/abi.NoEscape"], named := ["unicode/utf8.first", "unicode/utf8.acceptRanges"], apart := false, laid := [("unicode/utf8.acceptRanges", laid_unicode_utf8_acceptRanges), ("unicode/utf8.first", laid_unicode_utf8_first)], narrowed := true }
def DigitJoinsUptoSaid : Prop := digitJoinsUptoRow.holds Tryd.pinned (OpenSpec.upto digitJoinsSpec)

end Rows
end Go.Proofs.YtenifjkiiaahiaaDoor
