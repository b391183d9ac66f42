/-
  NARROWER THAN 'FOR EVERY INPUT', by the rows' own cells (each row's printed sentence says how): SymbolGood: laid · SymbolTexts: laid · SymbolJoins: laid · SymbolLatin: laid · SymbolSigns: laid.
  DERIVED. THE GIVEN ROWS OF THIS SEAT. 5 by the template 'for every input the law returns true; each argument reads behind the call as it read before'; 0 by the template 'total and deterministic' (their statements: YtngaeggnjfhnfaaDoorTotals.lean).
  GIVEN WITH THE SEED: the statements are not yours to turn. If you find one false, say at which input.
  Laid BY PROGRAM, IN A SANDBOX (cutbox-rows.mjs): the forced cells as the released guide's own fill.sh prints them over the translation 3721cfbe153755af… (all of the seat's roots in one cut). By AI agents, Wed Nov 11 2026. No macro, syntax, notation, axiom, sorry.
-/
import Derived.Test.YtngaeggnjfhnfaaDoorChecked
import GoSem.PinnedTables
import GoSem.Claim
import GoSem.ClaimJoined
import GoSem.ClaimMapViews
import Derived.JoinedTies
import Derived.KernelRfl
namespace Go.Proofs.YtngaeggnjfhnfaaDoor
/- THE CELL 'sum', in the pinned program and in every row, IS THE sha256 OF THE DUMP (.gsa) THAT YtngaeggnjfhnfaaDoorProg.lean LOADS. Nothing in Lean hashes anything: it is a label: what it is worth is what the hold of that sum in a sandbox is worth. -/
noncomputable def Tryd.pinned : Pinned := { name := "ytngaeggnjfhnfaadoor", sum := "3721cfbe153755afc3419bcc434a46fae8aab2c6b599b89e113c150e6a95ffa1", checked := Tryd.checked }
namespace Rows
def none {H : Type} : Left H := { results := [], args := [] }

/- WHAT THE LISTED PACKAGE-LEVEL VARIABLES READ AS WHEN THE CALL BEGINS. Each datum BY PROGRAM (the guide's laid-datum.mjs) off the statement by which the dump's own 'gosem.cut.vars' lays the variable. In a bare row this is a premise. The card (YtngaeggnjfhnfaaDoorCards.lean) ties it to the program's text. -/
def laid_unicode_utf8_acceptRanges {H : Type} : DataW H := .agg [.agg [.lit (.int .u8 128), .lit (.int .u8 191)], .agg [.lit (.int .u8 160), .lit (.int .u8 191)], .agg [.lit (.int .u8 128), .lit (.int .u8 159)], .agg [.lit (.int .u8 144), .lit (.int .u8 191)], .agg [.lit (.int .u8 128), .lit (.int .u8 143)], .agg [.lit (.int .u8 0), .lit (.int .u8 0)], .agg [.lit (.int .u8 0), .lit (.int .u8 0)], .agg [.lit (.int .u8 0), .lit (.int .u8 0)], .agg [.lit (.int .u8 0), .lit (.int .u8 0)], .agg [.lit (.int .u8 0), .lit (.int .u8 0)], .agg [.lit (.int .u8 0), .lit (.int .u8 0)], .agg [.lit (.int .u8 0), .lit (.int .u8 0)], .agg [.lit (.int .u8 0), .lit (.int .u8 0)], .agg [.lit (.int .u8 0), .lit (.int .u8 0)], .agg [.lit (.int .u8 0), .lit (.int .u8 0)], .agg [.lit (.int .u8 0), .lit (.int .u8 0)]]
/-- One of Go's own tables, pinned by name: the form's constant. -/
def laid_unicode_utf8_first : DataW Unit := Go.Pinned.utf8First

/-- 'figureheadlaw18.SymbolGood': WHATEVER THE INPUT: true; the input reads as it did. -/
def symbolGoodSpec : ChangeSpec := { name := "symbolGood", fn := fun _ => fun
  | [d] => { results := [.lit (.bool true)], args := [d] }
  | _ => none }
def symbolGoodRow : OpenClaim := { program := "ytngaeggnjfhnfaadoor", sum := "3721cfbe153755afc3419bcc434a46fae8aab2c6b599b89e113c150e6a95ffa1", func := "figurehead/figureheadlaw18.SymbolGood", spec := "symbolGood", inPlace := ["internal/abi.NoEscape"], named := ["unicode/utf8.first", "unicode/utf8.acceptRanges"], apart := false, laid := [("unicode/utf8.acceptRanges", laid_unicode_utf8_acceptRanges), ("unicode/utf8.first", laid_unicode_utf8_first)] }
def SymbolGoodSaid : Prop := symbolGoodRow.holds Tryd.pinned (OpenSpec.ofChange symbolGoodSpec)

/-- ITS FALSE NEIGHBOUR: 'it returns false'. Refute it at one input. -/
def symbolGoodWrong : ChangeSpec := { name := "symbolGood", fn := fun _ => fun
  | [d] => { results := [.lit (.bool false)], args := [d] }
  | _ => none }
def SymbolGoodWrongFalsely : Prop := symbolGoodRow.holds Tryd.pinned (OpenSpec.ofChange symbolGoodWrong)

/-- 'figureheadlaw18.SymbolTexts': WHATEVER THE INPUT: true; the input reads as it did. -/
def symbolTextsSpec : ChangeSpec := { name := "symbolTexts", fn := fun _ => fun
  | [d1, d2] => { results := [.lit (.bool true)], args := [d1, d2] }
  | _ => none }
def symbolTextsRow : OpenClaim := { program := "ytngaeggnjfhnfaadoor", sum := "3721cfbe153755afc3419bcc434a46fae8aab2c6b599b89e113c150e6a95ffa1", func := "figurehead/figureheadlaw18.SymbolTexts", spec := "symbolTexts", inPlace := ["internal/abi.NoEscape"], named := ["unicode/utf8.first", "unicode/utf8.acceptRanges"], apart := false, laid := [("unicode/utf8.acceptRanges", laid_unicode_utf8_acceptRanges), ("unicode/utf8.first", laid_unicode_utf8_first)] }
def SymbolTextsSaid : Prop := symbolTextsRow.holds Tryd.pinned (OpenSpec.ofChange symbolTextsSpec)

/-- ITS FALSE NEIGHBOUR: 'it returns false'. Refute it at one input. -/
def symbolTextsWrong : ChangeSpec := { name := "symbolTexts", fn := fun _ => fun
  | [d1, d2] => { results := [.lit (.bool false)], args := [d1, d2] }
  | _ => none }
def SymbolTextsWrongFalsely : Prop := symbolTextsRow.holds Tryd.pinned (OpenSpec.ofChange symbolTextsWrong)

/-- 'figureheadlaw18.SymbolJoins': WHATEVER THE INPUT: true; the input reads as it did. -/
def symbolJoinsSpec : ChangeSpec := { name := "symbolJoins", fn := fun _ => fun
  | [d1, d2, d3] => { results := [.lit (.bool true)], args := [d1, d2, d3] }
  | _ => none }
def symbolJoinsRow : OpenClaim := { program := "ytngaeggnjfhnfaadoor", sum := "3721cfbe153755afc3419bcc434a46fae8aab2c6b599b89e113c150e6a95ffa1", func := "figurehead/figureheadlaw18.SymbolJoins", spec := "symbolJoins", inPlace := ["internal/abi.NoEscape"], named := ["unicode/utf8.first", "unicode/utf8.acceptRanges"], apart := false, laid := [("unicode/utf8.acceptRanges", laid_unicode_utf8_acceptRanges), ("unicode/utf8.first", laid_unicode_utf8_first)] }
def SymbolJoinsSaid : Prop := symbolJoinsRow.holds Tryd.pinned (OpenSpec.ofChange symbolJoinsSpec)

/-- ITS FALSE NEIGHBOUR: 'it returns false'. Refute it at one input. -/
def symbolJoinsWrong : ChangeSpec := { name := "symbolJoins", fn := fun _ => fun
  | [d1, d2, d3] => { results := [.lit (.bool false)], args := [d1, d2, d3] }
  | _ => none }
def SymbolJoinsWrongFalsely : Prop := symbolJoinsRow.holds Tryd.pinned (OpenSpec.ofChange symbolJoinsWrong)

/-- 'figureheadlaw18.SymbolLatin': WHATEVER THE INPUT: true; the input reads as it did. -/
def symbolLatinSpec : ChangeSpec := { name := "symbolLatin", fn := fun _ => fun
  | [d] => { results := [.lit (.bool true)], args := [d] }
  | _ => none }
def symbolLatinRow : OpenClaim := { program := "ytngaeggnjfhnfaadoor", sum := "3721cfbe153755afc3419bcc434a46fae8aab2c6b599b89e113c150e6a95ffa1", func := "figurehead/figureheadlaw18.SymbolLatin", spec := "symbolLatin", inPlace := ["internal/abi.NoEscape"], named := ["unicode/utf8.first", "unicode/utf8.acceptRanges"], apart := false, laid := [("unicode/utf8.acceptRanges", laid_unicode_utf8_acceptRanges), ("unicode/utf8.first", laid_unicode_utf8_first)] }
def SymbolLatinSaid : Prop := symbolLatinRow.holds Tryd.pinned (OpenSpec.ofChange symbolLatinSpec)

/-- ITS FALSE NEIGHBOUR: 'it returns false'. Refute it at one input. -/
def symbolLatinWrong : ChangeSpec := { name := "symbolLatin", fn := fun _ => fun
  | [d] => { results := [.lit (.bool false)], args := [d] }
  | _ => none }
def SymbolLatinWrongFalsely : Prop := symbolLatinRow.holds Tryd.pinned (OpenSpec.ofChange symbolLatinWrong)

/-- 'figureheadlaw18.SymbolSigns': WHATEVER THE INPUT: true; the input reads as it did. -/
def symbolSignsSpec : ChangeSpec := { name := "symbolSigns", fn := fun _ => fun
  | [d1, d2, d3] => { results := [.lit (.bool true)], args := [d1, d2, d3] }
  | _ => none }
def symbolSignsRow : OpenClaim := { program := "ytngaeggnjfhnfaadoor", sum := "3721cfbe153755afc3419bcc434a46fae8aab2c6b599b89e113c150e6a95ffa1", func := "figurehead/figureheadlaw18.SymbolSigns", spec := "symbolSigns", inPlace := ["internal/abi.NoEscape"], named := ["unicode/utf8.first", "unicode/utf8.acceptRanges"], apart := false, laid := [("unicode/utf8.acceptRanges", laid_unicode_utf8_acceptRanges), ("unicode/utf8.first", laid_unicode_utf8_first)] }
def SymbolSignsSaid : Prop := symbolSignsRow.holds Tryd.pinned (OpenSpec.ofChange symbolSignsSpec)

/-- ITS FALSE NEIGHBOUR: 'it returns false'. Refute it at one input. -/
def symbolSignsWrong : ChangeSpec := { name := "symbolSigns", fn := fun _ => fun
  | [d1, d2, d3] => { results := [.lit (.bool false)], args := [d1, d2, d3] }
  | _ => none }
def SymbolSignsWrongFalsely : Prop := symbolSignsRow.holds Tryd.pinned (OpenSpec.ofChange symbolSignsWrong)

/- THE SECOND FORM. 'bulk': how many values and letters a reading holds, each counted each time it is reached (what is shared counts as often as it is met; a slice's spare places count too). A statement '..UptoSaid' is the law's where the arguments, and the package variables that the reading takes, are together of bulk at most 1048576: NARROWER than '..Said'. Prove '..Said' where nothing that the law and all that it calls make is longer than what came in: it says more and counts as full. Else prove '..UptoSaid'. A law counts once. -/
mutual
def uptoBulk {H : Type} : DataW H → Nat
  | .lit (.string bytes) => bytes.length + 1
  | .lit _ => 1
  | .nil => 1
  | .ptr d => uptoBulk d + 1
  | .slice elems spare => uptoBulkAll elems + uptoBulkAll spare + 1
  | .agg parts => uptoBulkAll parts + 1
  | .iface _ d => uptoBulk d + 1
  | .map entries => uptoBulkEntries entries + 1
  | .held _ => 1
def uptoBulkAll {H : Type} : List (DataW H) → Nat
  | [] => 0
  | d :: r => uptoBulk d + uptoBulkAll r
def uptoBulkEntries {H : Type} : List (Lit × DataW H) → Nat
  | [] => 0
  | x :: r => uptoBulkEntry x + uptoBulkEntries r
def uptoBulkEntry {H : Type} : Lit × DataW H → Nat
  | (.string bytes, d) => bytes.length + uptoBulk d + 1
  | (_, d) => uptoBulk d + 1
 end
def uptoSmall : (H : Type) → List (DataW H) → Bool := fun _ ds => decide (uptoBulkAll ds ≤ 1048576)
def OpenSpec.upto (s : _root_.Go.ChangeSpec) : _root_.Go.OpenSpec := { _root_.Go.OpenSpec.ofChange s with cond := some uptoSmall }

/-- 'figureheadlaw18.SymbolGood', WHERE WHAT IT READS IS OF BULK AT MOST 1048576: true; the input reads as it did. -/
def symbolGoodUptoRow : OpenClaim := { program := "ytngaeggnjfhnfaadoor", sum := "3721cfbe153755afc3419bcc434a46fae8aab2c6b599b89e113c150e6a95ffa1", func := "figurehead/figureheadlaw18.SymbolGood", spec := "symbolGood", inPlace := ["internal/abi.NoEscape"], named := ["unicode/utf8.first", "unicode/utf8.acceptRanges"], apart := false, laid := [("unicode/utf8.acceptRanges", laid_unicode_utf8_acceptRanges), ("unicode/utf8.first", laid_unicode_utf8_first)], narrowed := true }
def SymbolGoodUptoSaid : Prop := symbolGoodUptoRow.holds Tryd.pinned (OpenSpec.upto symbolGoodSpec)

/-- 'figureheadlaw18.SymbolTexts', WHERE WHAT IT READS IS OF BULK AT MOST 1048576: true; the input reads as it did. -/
def symbolTextsUptoRow : OpenClaim := { program := "ytngaeggnjfhnfaadoor", sum := "3721cfbe153755afc3419bcc434a46fae8aab2c6b599b89e113c150e6a95ffa1", func := "figurehead/figureheadlaw18.SymbolTexts", spec := "symbolTexts", inPlace := ["internal/abi.NoEscape"], named := ["unicode/utf8.first", "unicode/utf8.acceptRanges"], apart := false, laid := [("unicode/utf8.acceptRanges", laid_unicode_utf8_acceptRanges), ("unicode/utf8.first", laid_unicode_utf8_first)], narrowed := true }
def SymbolTextsUptoSaid : Prop := symbolTextsUptoRow.holds Tryd.pinned (OpenSpec.upto symbolTextsSpec)

/-- 'figureheadlaw18.SymbolJoins', WHERE WHAT IT READS IS OF BULK AT MOST 1048576: true; the input reads as it did. -/
def symbolJoinsUptoRow : OpenClaim := { program := "ytngaeggnjfhnfaadoor", sum := "3721cfbe153755afc3419bcc434a46fae8aab2c6b599b89e113c150e6a95ffa1", func := "figurehead/figureheadlaw18.SymbolJoins", spec := "symbolJoins", inPlace := ["internal/abi.NoEscape"], named := ["unicode/utf8.first", "unicode/utf8.acceptRanges"], apart := false, laid := [("unicode/utf8.acceptRanges", laid_unicode_utf8_acceptRanges), ("unicode/utf8.first", laid_unicode_utf8_first)], narrowed := true }
def SymbolJoinsUptoSaid : Prop := symbolJoinsUptoRow.holds Tryd.pinned (OpenSpec.upto symbolJoinsSpec)

/-- 'figureheadlaw18.SymbolLatin', WHERE WHAT IT READS IS OF BULK AT MOST 1048576: true; the input reads as it did. -/
def symbolLatinUptoRow : OpenClaim := { program := "ytngaeggnjfhnfaadoor", sum := "3721cfbe153755afc3419bcc434a46fae8aab2c6b599b89e113c150e6a95ffa1", func := "figurehead/figureheadlaw18.SymbolLatin", spec := "symbolLatin", inPlace := ["internal/abi.NoEscape"], named := ["unicode/utf8.first", "unicode/utf8.acceptRanges"], apart := false, laid := [("unicode/utf8.acceptRanges", laid_unicode_utf8_acceptRanges), ("unicode/utf8.first", laid_unicode_utf8_first)], narrowed := true }
def SymbolLatinUptoSaid : Prop := symbolLatinUptoRow.holds Tryd.pinned (OpenSpec.upto symbolLatinSpec)

/-- 'figureheadlaw18.SymbolSigns', WHERE WHAT IT READS IS OF BULK AT MOST 1048576: true; the input reads as it did. -/
def symbolSignsUptoRow : OpenClaim := { program := "ytngaeggnjfhnfaadoor", sum := "3721cfbe153755afc3419bcc434a46fae8aab2c6b599b89e113c150e6a95ffa1", func := "figurehead/figureheadlaw18.SymbolSigns", spec := "symbolSigns", inPlace := ["internal/abi.NoEscape"], named := ["unicode/utf8.first", "unicode/utf8.acceptRanges"], apart := false, laid := [("unicode/utf8.acceptRanges", laid_unicode_utf8_acceptRanges), ("unicode/utf8.first", laid_unicode_utf8_first)], narrowed := true }
def SymbolSignsUptoSaid : Prop := symbolSignsUptoRow.holds Tryd.pinned (OpenSpec.upto symbolSignsSpec)

end Rows
end Go.Proofs.YtngaeggnjfhnfaaDoor
