/- Out of a row's premises: what the contracts ask of a world (the variable that package bytealg sets holds some number). -/
import Derived.Test.YtgobcejjefgkcaaDoorNa
import Derived.Test.YtgobcejjefgkcaaDoorRows
import Derived.Shelf.Vars
import Derived.OpenShut
namespace Go.Proofs.YtgobcejjefgkcaaDoor.Print
open Go.RowKit Go.Proofs.YtgobcejjefgkcaaDoorW.PrintWords Go.Proofs.YtgobcejjefgkcaaDoorW.PrintLast Go.Proofs.YtgobcejjefgkcaaDoorW.PrintMore
theorem Tabs_laid {w : World} {l : List (String × DataW Unit)} (hSh : w.ShapedOpen Tryd.prog) (_ : laidMet Tryd.prog l w) (_ : ("unicode/utf8.first", Rows.laid_unicode_utf8_first) ∈ l) (_ : ("unicode/utf8.acceptRanges", Rows.laid_unicode_utf8_acceptRanges) ∈ l) : Tabs w :=
  Go.Proofs.cell_of_shapedOpen_int (zero := #[.int .i64 0]) (t := 3) hSh (of_decide_eq_true (by kernel_rfl)) (by kernel_rfl) rfl (by kernel_rfl) (by kernel_rfl) Tryd.underlying3
end Go.Proofs.YtgobcejjefgkcaaDoor.Print
