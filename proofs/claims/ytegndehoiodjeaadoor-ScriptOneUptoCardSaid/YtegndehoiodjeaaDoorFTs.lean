/- What the contracts on numbers' texts and on cuts ask of a world, and that it stays: a length of the library's, the powers of ten, two errors. -/
import Derived.Test.YtegndehoiodjeaaDoorPrint0
import Derived.Test.YtegndehoiodjeaaDoorShelf
import Derived.Test.YtegndehoiodjeaaDoorRows
import Derived.Lib.LaidTab
import Derived.Lib.SmallJoins
namespace Go.Proofs.YtegndehoiodjeaaDoor.Print
open Go.RowKit Go.Lib Go.Proofs.YtegndehoiodjeaaDoorW.PrintWords Go.Proofs.YtegndehoiodjeaaDoorW.PrintLast Go.Proofs.YtegndehoiodjeaaDoorW.PrintMore
set_option linter.unusedVariables false
set_option linter.unusedSimpArgs false

def ErrVar (g : Nat) (w : World) : Prop := ∃ te pe, w.cell? ⟨g, 0, none⟩ = some (.iface te pe)
def LenVar (w : World) : Prop := ∃ m : Int, w.cell? ⟨0, 0, none⟩ = some (.int .i64 m)
def Tabs (w : World) : Prop := LenVar w ∧ Lib.TabIs Tryd.prog w "internal/strconv.uint64pow10" .u64 Lib.pow10Tab ∧ ErrVar 1 w ∧ ErrVar 2 w
theorem errVar_below {g : Nat} {w W : World} (h : ErrVar g w) (hb : Below w.heap.size w W) : ErrVar g W := by
  obtain ⟨te, pe, hc⟩ := h
  exact ⟨te, pe, (hb.cell (p := ⟨g, 0, none⟩) (World.block_lt_of_cell? w _ hc)).trans hc⟩
theorem Tabs_below {w W : World} (h : Tabs w) (hb : Below w.heap.size w W) : Tabs W := by
  obtain ⟨⟨m, hm⟩, ht, h1, h2⟩ := h
  exact ⟨⟨m, (hb.cell (p := ⟨_, 0, none⟩) (World.block_lt_of_cell? w _ hm)).trans hm⟩, Go.Joins.tab_stays (show Tryd.prog.globalNamed "internal/strconv.uint64pow10" = some 3 by kernel_rfl) ht hb (Nat.le_refl _), errVar_below h1 hb, errVar_below h2 hb⟩
theorem Tabs_drewN {w : World} (h : Tabs w) (n : Nat) : Tabs (w.drewN n) := Tabs_below h (Drawn0.below ⟨⟨n, rfl⟩⟩)
theorem Tabs_drew {w : World} (h : Tabs w) : Tabs w.drew := Tabs_drewN h 1
end Go.Proofs.YtegndehoiodjeaaDoor.Print
