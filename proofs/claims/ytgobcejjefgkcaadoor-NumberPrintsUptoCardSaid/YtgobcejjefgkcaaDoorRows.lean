/-
  NARROWER THAN 'FOR EVERY INPUT', by the rows' own cells (each row's printed sentence says how): NumberParses: laid · NumberPrints: laid · NumberBack: laid · NumberBounds: laid · NumberMore: laid · NumberFields: laid.
  DERIVED. THE GIVEN ROWS OF THIS SEAT. 6 by the template 'for every input the law returns true; each argument reads behind the call as it read before'; 0 by the template 'total and deterministic' (their statements: YtgobcejjefgkcaaDoorTotals.lean).
  GIVEN WITH THE SEED: the statements are not yours to turn. If you find one false, say at which input.
  Laid BY PROGRAM, IN A SANDBOX (cutbox-rows.mjs): the forced cells as the released guide's own fill.sh prints them over the translation b7bd66c57d0450f7… (all of the seat's roots in one cut). By AI agents, Wed Nov 11 2026. No macro, syntax, notation, axiom, sorry.
-/
import Derived.Test.YtgobcejjefgkcaaDoorChecked
import GoSem.PinnedTables
import GoSem.Claim
import GoSem.ClaimJoined
import GoSem.ClaimMapViews
import Derived.JoinedTies
import Derived.KernelRfl
namespace Go.Proofs.YtgobcejjefgkcaaDoor
/- THE CELL 'sum', in the pinned program and in every row, IS THE sha256 OF THE DUMP (.gsa) THAT YtgobcejjefgkcaaDoorProg.lean LOADS. Nothing in Lean hashes anything: it is a label: what it is worth is what the hold of that sum in a sandbox is worth. -/
noncomputable def Tryd.pinned : Pinned := { name := "ytgobcejjefgkcaadoor", sum := "b7bd66c57d0450f78404e0e51d7b30e60c3a7b7687b6993a6b3c64edcbf6aa8d", checked := Tryd.checked }
namespace Rows
def none {H : Type} : Left H := { results := [], args := [] }

/- WHAT THE LISTED PACKAGE-LEVEL VARIABLES READ AS WHEN THE CALL BEGINS. Each datum BY PROGRAM (the guide's laid-datum.mjs) off the statement by which the dump's own 'gosem.cut.vars' lays the variable. In a bare row this is a premise. The card (YtgobcejjefgkcaaDoorCards.lean) ties it to the program's text. -/
def laid_unicode_utf8_acceptRanges {H : Type} : DataW H := .agg [.agg [.lit (.int .u8 128), .lit (.int .u8 191)], .agg [.lit (.int .u8 160), .lit (.int .u8 191)], .agg [.lit (.int .u8 128), .lit (.int .u8 159)], .agg [.lit (.int .u8 144), .lit (.int .u8 191)], .agg [.lit (.int .u8 128), .lit (.int .u8 143)], .agg [.lit (.int .u8 0), .lit (.int .u8 0)], .agg [.lit (.int .u8 0), .lit (.int .u8 0)], .agg [.lit (.int .u8 0), .lit (.int .u8 0)], .agg [.lit (.int .u8 0), .lit (.int .u8 0)], .agg [.lit (.int .u8 0), .lit (.int .u8 0)], .agg [.lit (.int .u8 0), .lit (.int .u8 0)], .agg [.lit (.int .u8 0), .lit (.int .u8 0)], .agg [.lit (.int .u8 0), .lit (.int .u8 0)], .agg [.lit (.int .u8 0), .lit (.int .u8 0)], .agg [.lit (.int .u8 0), .lit (.int .u8 0)], .agg [.lit (.int .u8 0), .lit (.int .u8 0)]]
/-- One of Go's own tables, pinned by name: the form's constant. -/
def laid_unicode_utf8_first : DataW Unit := Go.Pinned.utf8First

/-- 'figureheadlaw15.NumberParses': WHATEVER THE INPUT: true; the input reads as it did. -/
def numberParsesSpec : ChangeSpec := { name := "numberParses", fn := fun _ => fun
  | [d] => { results := [.lit (.bool true)], args := [d] }
  | _ => none }
def numberParsesRow : OpenClaim := { program := "ytgobcejjefgkcaadoor", sum := "b7bd66c57d0450f78404e0e51d7b30e60c3a7b7687b6993a6b3c64edcbf6aa8d", func := "figurehead/figureheadlaw15.NumberParses", spec := "numberParses", inPlace := ["internal/bytealg.IndexByteString", "internal/bytealg.IndexString", "internal/bytealg.CountString", "internal/abi.NoEscape", "internal/bytealg.MakeNoZero"], unfollowed := true, recurses := true, named := ["internal/bytealg.MaxLen", "unicode/utf8.first", "unicode/utf8.acceptRanges"], apart := false, laid := [("unicode/utf8.acceptRanges", laid_unicode_utf8_acceptRanges), ("unicode/utf8.first", laid_unicode_utf8_first)] }
def NumberParsesSaid : Prop := numberParsesRow.holds Tryd.pinned (OpenSpec.ofChange numberParsesSpec)

/-- ITS FALSE NEIGHBOUR: 'it returns false'. Refute it at one input. -/
def numberParsesWrong : ChangeSpec := { name := "numberParses", fn := fun _ => fun
  | [d] => { results := [.lit (.bool false)], args := [d] }
  | _ => none }
def NumberParsesWrongFalsely : Prop := numberParsesRow.holds Tryd.pinned (OpenSpec.ofChange numberParsesWrong)

/-- 'figureheadlaw15.NumberPrints': WHATEVER THE INPUT: true; the input reads as it did. -/
def numberPrintsSpec : ChangeSpec := { name := "numberPrints", fn := fun _ => fun
  | [d1, d2] => { results := [.lit (.bool true)], args := [d1, d2] }
  | _ => none }
def numberPrintsRow : OpenClaim := { program := "ytgobcejjefgkcaadoor", sum := "b7bd66c57d0450f78404e0e51d7b30e60c3a7b7687b6993a6b3c64edcbf6aa8d", func := "figurehead/figureheadlaw15.NumberPrints", spec := "numberPrints", inPlace := ["internal/bytealg.IndexByteString", "internal/bytealg.IndexString", "internal/bytealg.CountString", "internal/abi.NoEscape", "internal/bytealg.MakeNoZero"], unfollowed := true, recurses := true, named := ["internal/bytealg.MaxLen", "unicode/utf8.first", "unicode/utf8.acceptRanges"], apart := false, laid := [("unicode/utf8.acceptRanges", laid_unicode_utf8_acceptRanges), ("unicode/utf8.first", laid_unicode_utf8_first)] }
def NumberPrintsSaid : Prop := numberPrintsRow.holds Tryd.pinned (OpenSpec.ofChange numberPrintsSpec)

/-- ITS FALSE NEIGHBOUR: 'it returns false'. Refute it at one input. -/
def numberPrintsWrong : ChangeSpec := { name := "numberPrints", fn := fun _ => fun
  | [d1, d2] => { results := [.lit (.bool false)], args := [d1, d2] }
  | _ => none }
def NumberPrintsWrongFalsely : Prop := numberPrintsRow.holds Tryd.pinned (OpenSpec.ofChange numberPrintsWrong)

/-- 'figureheadlaw15.NumberBack': WHATEVER THE INPUT: true; the input reads as it did. -/
def numberBackSpec : ChangeSpec := { name := "numberBack", fn := fun _ => fun
  | [d1, d2] => { results := [.lit (.bool true)], args := [d1, d2] }
  | _ => none }
def numberBackRow : OpenClaim := { program := "ytgobcejjefgkcaadoor", sum := "b7bd66c57d0450f78404e0e51d7b30e60c3a7b7687b6993a6b3c64edcbf6aa8d", func := "figurehead/figureheadlaw15.NumberBack", spec := "numberBack", inPlace := ["internal/bytealg.IndexByteString", "internal/bytealg.IndexString", "internal/bytealg.CountString", "internal/abi.NoEscape", "internal/bytealg.MakeNoZero"], unfollowed := true, recurses := true, named := ["internal/bytealg.MaxLen", "unicode/utf8.first", "unicode/utf8.acceptRanges"], apart := false, laid := [("unicode/utf8.acceptRanges", laid_unicode_utf8_acceptRanges), ("unicode/utf8.first", laid_unicode_utf8_first)] }
def NumberBackSaid : Prop := numberBackRow.holds Tryd.pinned (OpenSpec.ofChange numberBackSpec)

/-- ITS FALSE NEIGHBOUR: 'it returns false'. Refute it at one input. -/
def numberBackWrong : ChangeSpec := { name := "numberBack", fn := fun _ => fun
  | [d1, d2] => { results := [.lit (.bool false)], args := [d1, d2] }
  | _ => none }
def NumberBackWrongFalsely : Prop := numberBackRow.holds Tryd.pinned (OpenSpec.ofChange numberBackWrong)

/-- 'figureheadlaw15.NumberBounds': WHATEVER THE INPUT: true; the input reads as it did. -/
def numberBoundsSpec : ChangeSpec := { name := "numberBounds", fn := fun _ => fun
  | [d] => { results := [.lit (.bool true)], args := [d] }
  | _ => none }
def numberBoundsRow : OpenClaim := { program := "ytgobcejjefgkcaadoor", sum := "b7bd66c57d0450f78404e0e51d7b30e60c3a7b7687b6993a6b3c64edcbf6aa8d", func := "figurehead/figureheadlaw15.NumberBounds", spec := "numberBounds", inPlace := ["internal/bytealg.IndexByteString", "internal/bytealg.IndexString", "internal/bytealg.CountString", "internal/abi.NoEscape", "internal/bytealg.MakeNoZero"], unfollowed := true, recurses := true, named := ["internal/bytealg.MaxLen", "unicode/utf8.first", "unicode/utf8.acceptRanges"], apart := false, laid := [("unicode/utf8.acceptRanges", laid_unicode_utf8_acceptRanges), ("unicode/utf8.first", laid_unicode_utf8_first)] }
def NumberBoundsSaid : Prop := numberBoundsRow.holds Tryd.pinned (OpenSpec.ofChange numberBoundsSpec)

/-- ITS FALSE NEIGHBOUR: 'it returns false'. Refute it at one input. -/
def numberBoundsWrong : ChangeSpec := { name := "numberBounds", fn := fun _ => fun
  | [d] => { results := [.lit (.bool false)], args := [d] }
  | _ => none }
def NumberBoundsWrongFalsely : Prop := numberBoundsRow.holds Tryd.pinned (OpenSpec.ofChange numberBoundsWrong)

/-- 'figureheadlaw15.NumberMore': WHATEVER THE INPUT: true; the input reads as it did. -/
def numberMoreSpec : ChangeSpec := { name := "numberMore", fn := fun _ => fun
  | [d1, d2] => { results := [.lit (.bool true)], args := [d1, d2] }
  | _ => none }
def numberMoreRow : OpenClaim := { program := "ytgobcejjefgkcaadoor", sum := "b7bd66c57d0450f78404e0e51d7b30e60c3a7b7687b6993a6b3c64edcbf6aa8d", func := "figurehead/figureheadlaw15.NumberMore", spec := "numberMore", inPlace := ["internal/bytealg.IndexByteString", "internal/bytealg.IndexString", "internal/bytealg.CountString", "internal/abi.NoEscape", "internal/bytealg.MakeNoZero"], unfollowed := true, recurses := true, named := ["internal/bytealg.MaxLen", "unicode/utf8.first", "unicode/utf8.acceptRanges"], apart := false, laid := [("unicode/utf8.acceptRanges", laid_unicode_utf8_acceptRanges), ("unicode/utf8.first", laid_unicode_utf8_first)] }
def NumberMoreSaid : Prop := numberMoreRow.holds Tryd.pinned (OpenSpec.ofChange numberMoreSpec)

/-- ITS FALSE NEIGHBOUR: 'it returns false'. Refute it at one input. -/
def numberMoreWrong : ChangeSpec := { name := "numberMore", fn := fun _ => fun
  | [d1, d2] => { results := [.lit (.bool false)], args := [d1, d2] }
  | _ => none }
def NumberMoreWrongFalsely : Prop := numberMoreRow.holds Tryd.pinned (OpenSpec.ofChange numberMoreWrong)

/-- 'figureheadlaw15.NumberFields': WHATEVER THE INPUT: true; the input reads as it did. -/
def numberFieldsSpec : ChangeSpec := { name := "numberFields", fn := fun _ => fun
  | [d] => { results := [.lit (.bool true)], args := [d] }
  | _ => none }
def numberFieldsRow : OpenClaim := { program := "ytgobcejjefgkcaadoor", sum := "b7bd66c57d0450f78404e0e51d7b30e60c3a7b7687b6993a6b3c64edcbf6aa8d", func := "figurehead/figureheadlaw15.NumberFields", spec := "numberFields", inPlace := ["internal/bytealg.IndexByteString", "internal/bytealg.IndexString", "internal/bytealg.CountString", "internal/abi.NoEscape", "internal/bytealg.MakeNoZero"], unfollowed := true, recurses := true, named := ["internal/bytealg.MaxLen", "unicode/utf8.first", "unicode/utf8.acceptRanges"], apart := false, laid := [("unicode/utf8.acceptRanges", laid_unicode_utf8_acceptRanges), ("unicode/utf8.first", laid_unicode_utf8_first)] }
def NumberFieldsSaid : Prop := numberFieldsRow.holds Tryd.pinned (OpenSpec.ofChange numberFieldsSpec)

/-- ITS FALSE NEIGHBOUR: 'it returns false'. Refute it at one input. -/
def numberFieldsWrong : ChangeSpec := { name := "numberFields", fn := fun _ => fun
  | [d] => { results := [.lit (.bool false)], args := [d] }
  | _ => none }
def NumberFieldsWrongFalsely : Prop := numberFieldsRow.holds Tryd.pinned (OpenSpec.ofChange numberFieldsWrong)

/- THE SECOND FORM. 'bulk': how many values and letters a reading holds, each counted each time it is reached (what is shared counts as often as it is met; a slice's spare places count too). A statement '..UptoSaid' is the law's where the arguments, and the package variables that the reading takes, are together of bulk at most 1048576: NARROWER than '..Said'. Prove '..Said' where nothing that the law and all that it calls make is longer than what came in: it says more and counts as full. Else prove '..UptoSaid'. A law counts once. -/
mutual
def uptoBulk {H : Type} : DataW H → Nat
  | .lit (.string bytes) => bytes.length + 1
  | .lit _ => 1
  | .nil => 1
  | .ptr d => uptoBulk d + 1
  | .slice elems spare => uptoBulkAll elems + uptoBulkAll spare + 1
  | .agg parts => uptoBulkAll parts + 1
  | .iface _ d => uptoBulk d + 1
  | .map entries => uptoBulkEntries entries + 1
  | .held _ => 1
def uptoBulkAll {H : Type} : List (DataW H) → Nat
  | [] => 0
  | d :: r => uptoBulk d + uptoBulkAll r
def uptoBulkEntries {H : Type} : List (Lit × DataW H) → Nat
  | [] => 0
  | x :: r => uptoBulkEntry x + uptoBulkEntries r
def uptoBulkEntry {H : Type} : Lit × DataW H → Nat
  | (.string bytes, d) => bytes.length + uptoBulk d + 1
  | (_, d) => uptoBulk d + 1
 end
def uptoSmall : (H : Type) → List (DataW H) → Bool := fun _ ds => decide (uptoBulkAll ds ≤ 1048576)
def OpenSpec.upto (s : _root_.Go.ChangeSpec) : _root_.Go.OpenSpec := { _root_.Go.OpenSpec.ofChange s with cond := some uptoSmall }

/-- 'figureheadlaw15.NumberParses', WHERE WHAT IT READS IS OF BULK AT MOST 1048576: true; the input reads as it did. -/
def numberParsesUptoRow : OpenClaim := { program := "ytgobcejjefgkcaadoor", sum := "b7bd66c57d0450f78404e0e51d7b30e60c3a7b7687b6993a6b3c64edcbf6aa8d", func := "figurehead/figureheadlaw15.NumberParses", spec := "numberParses", inPlace := ["internal/bytealg.IndexByteString", "internal/bytealg.IndexString", "internal/bytealg.CountString", "internal/abi.NoEscape", "internal/bytealg.MakeNoZero"], unfollowed := true, recurses := true, named := ["internal/bytealg.MaxLen", "unicode/utf8.first", "unicode/utf8.acceptRanges"], apart := false, laid := [("unicode/utf8.acceptRanges", laid_unicode_utf8_acceptRanges), ("unicode/utf8.first", laid_unicode_utf8_first)], narrowed := true }
def NumberParsesUptoSaid : Prop := numberParsesUptoRow.holds Tryd.pinned (OpenSpec.upto numberParsesSpec)

/-- 'figureheadlaw15.NumberPrints', WHERE WHAT IT READS IS OF BULK AT MOST 1048576: true; the input reads as it did. -/
def numberPrintsUptoRow : OpenClaim := { program := "ytgobcejjefgkcaadoor", sum := "b7bd66c57d0450f78404e0e51d7b30e60c3a7b7687b6993a6b3c64edcbf6aa8d", func := "figurehead/figureheadlaw15.NumberPrints", spec := "numberPrints", inPlace := ["internal/bytealg.IndexByteString", "internal/bytealg.IndexString", "internal/bytealg.CountString", "internal/abi.NoEscape", "internal/bytealg.MakeNoZero"], unfollowed := true, recurses := true, named := ["internal/bytealg.MaxLen", "unicode/utf8.first", "unicode/utf8.acceptRanges"], apart := false, laid := [("unicode/utf8.acceptRanges", laid_unicode_utf8_acceptRanges), ("unicode/utf8.first", laid_unicode_utf8_first)], narrowed := true }
def NumberPrintsUptoSaid : Prop := numberPrintsUptoRow.holds Tryd.pinned (OpenSpec.upto numberPrintsSpec)

/-- 'figureheadlaw15.NumberBack', WHERE WHAT IT READS IS OF BULK AT MOST 1048576: true; the input reads as it did. -/
def numberBackUptoRow : OpenClaim := { program := "ytgobcejjefgkcaadoor", sum := "b7bd66c57d0450f78404e0e51d7b30e60c3a7b7687b6993a6b3c64edcbf6aa8d", func := "figurehead/figureheadlaw15.NumberBack", spec := "numberBack", inPlace := ["internal/bytealg.IndexByteString", "internal/bytealg.IndexString", "internal/bytealg.CountString", "internal/abi.NoEscape", "internal/bytealg.MakeNoZero"], unfollowed := true, recurses := true, named := ["internal/bytealg.MaxLen", "unicode/utf8.first", "unicode/utf8.acceptRanges"], apart := false, laid := [("unicode/utf8.acceptRanges", laid_unicode_utf8_acceptRanges), ("unicode/utf8.first", laid_unicode_utf8_first)], narrowed := true }
def NumberBackUptoSaid : Prop := numberBackUptoRow.holds Tryd.pinned (OpenSpec.upto numberBackSpec)

/-- 'figureheadlaw15.NumberBounds', WHERE WHAT IT READS IS OF BULK AT MOST 1048576: true; the input reads as it did. -/
def numberBoundsUptoRow : OpenClaim := { program := "ytgobcejjefgkcaadoor", sum := "b7bd66c57d0450f78404e0e51d7b30e60c3a7b7687b6993a6b3c64edcbf6aa8d", func := "figurehead/figureheadlaw15.NumberBounds", spec := "numberBounds", inPlace := ["internal/bytealg.IndexByteString", "internal/bytealg.IndexString", "internal/bytealg.CountString", "internal/abi.NoEscape", "internal/bytealg.MakeNoZero"], unfollowed := true, recurses := true, named := ["internal/bytealg.MaxLen", "unicode/utf8.first", "unicode/utf8.acceptRanges"], apart := false, laid := [("unicode/utf8.acceptRanges", laid_unicode_utf8_acceptRanges), ("unicode/utf8.first", laid_unicode_utf8_first)], narrowed := true }
def NumberBoundsUptoSaid : Prop := numberBoundsUptoRow.holds Tryd.pinned (OpenSpec.upto numberBoundsSpec)

/-- 'figureheadlaw15.NumberMore', WHERE WHAT IT READS IS OF BULK AT MOST 1048576: true; the input reads as it did. -/
def numberMoreUptoRow : OpenClaim := { program := "ytgobcejjefgkcaadoor", sum := "b7bd66c57d0450f78404e0e51d7b30e60c3a7b7687b6993a6b3c64edcbf6aa8d", func := "figurehead/figureheadlaw15.NumberMore", spec := "numberMore", inPlace := ["internal/bytealg.IndexByteString", "internal/bytealg.IndexString", "internal/bytealg.CountString", "internal/abi.NoEscape", "internal/bytealg.MakeNoZero"], unfollowed := true, recurses := true, named := ["internal/bytealg.MaxLen", "unicode/utf8.first", "unicode/utf8.acceptRanges"], apart := false, laid := [("unicode/utf8.acceptRanges", laid_unicode_utf8_acceptRanges), ("unicode/utf8.first", laid_unicode_utf8_first)], narrowed := true }
def NumberMoreUptoSaid : Prop := numberMoreUptoRow.holds Tryd.pinned (OpenSpec.upto numberMoreSpec)

/-- 'figureheadlaw15.NumberFields', WHERE WHAT IT READS IS OF BULK AT MOST 1048576: true; the input reads as it did. -/
def numberFieldsUptoRow : OpenClaim := { program := "ytgobcejjefgkcaadoor", sum := "b7bd66c57d0450f78404e0e51d7b30e60c3a7b7687b6993a6b3c64edcbf6aa8d", func := "figurehead/figureheadlaw15.NumberFields", spec := "numberFields", inPlace := ["internal/bytealg.IndexByteString", "internal/bytealg.IndexString", "internal/bytealg.CountString", "internal/abi.NoEscape", "internal/bytealg.MakeNoZero"], unfollowed := true, recurses := true, named := ["internal/bytealg.MaxLen", "unicode/utf8.first", "unicode/utf8.acceptRanges"], apart := false, laid := [("unicode/utf8.acceptRanges", laid_unicode_utf8_acceptRanges), ("unicode/utf8.first", laid_unicode_utf8_first)], narrowed := true }
def NumberFieldsUptoSaid : Prop := numberFieldsUptoRow.holds Tryd.pinned (OpenSpec.upto numberFieldsSpec)

end Rows
end Go.Proofs.YtgobcejjefgkcaaDoor
