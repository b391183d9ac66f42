/- The tables of unicode/utf8, as a world holds them: what the contracts on texts ask of a world, and that it stays. -/
import Derived.Test.YtegcjanglneciaaDoorPrint0
import Derived.Test.YtegcjanglneciaaDoorShelf
import Derived.Test.YtegcjanglneciaaDoorRows
import Derived.Lib.LaidU8T
import Derived.PinnedBridge
namespace Go.Proofs.YtegcjanglneciaaDoor.Print
open Go.RowKit Go.Lib Go.Proofs.YtegcjanglneciaaDoorW.PrintWords Go.Proofs.YtegcjanglneciaaDoorW.PrintLast Go.Proofs.YtegcjanglneciaaDoorW.PrintMore
set_option linter.unusedVariables false
set_option linter.unusedSimpArgs false

def Tabs (w : World) : Prop := Lib.Utf8Tabs 0 1 w
theorem Tabs_utf8 {w : World} (h : Tabs w) : Lib.Utf8Tabs 0 1 w := h
theorem Tabs_below {w W : World} (h : Tabs w) (hb : Below w.heap.size w W) : Tabs W := Utf8Tabs_below h hb
theorem Tabs_drewN {w : World} (h : Tabs w) (n : Nat) : Tabs (w.drewN n) := Tabs_below h (Drawn0.below ⟨⟨n, rfl⟩⟩)
theorem Tabs_drew {w : World} (h : Tabs w) : Tabs w.drew := Tabs_drewN h 1
theorem Utf8_of {w : World} (hSh : w.ShapedOpen Tryd.prog) (h3 : VarReads Tryd.prog w "unicode/utf8.first" firstData) (h4 : VarReads Tryd.prog w "unicode/utf8.acceptRanges" acceptData) : Lib.Utf8Tabs 0 1 w :=
  utf8Tabs_of_readsT (U8Types.of260 Tryd.lays260) { n3 := by kernel_rfl, n4 := by kernel_rfl, y3 := by kernel_rfl, y4 := by kernel_rfl, c5 := by kernel_rfl, c119 := by kernel_rfl, c138 := by kernel_rfl } h3 h4
theorem first_data : Rows.laid_unicode_utf8_first = firstData := Pinned.utf8First_eq
theorem accept_data : Rows.laid_unicode_utf8_acceptRanges = acceptData := by kernel_rfl
/-- Out of a row's list. -/
theorem Tabs_laid {w : World} {l : List (String × DataW Unit)} (hSh : w.ShapedOpen Tryd.prog) (h : laidMet Tryd.prog l w) (h3 : ("unicode/utf8.first", Rows.laid_unicode_utf8_first) ∈ l) (h4 : ("unicode/utf8.acceptRanges", Rows.laid_unicode_utf8_acceptRanges) ∈ l) : Tabs w :=
  Utf8_of hSh (first_data ▸ laidMet.reads h h3) (accept_data ▸ laidMet.reads h h4)
end Go.Proofs.YtegcjanglneciaaDoor.Print
