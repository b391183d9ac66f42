/- strings.IndexByte as the library's text has it: its contract in the kinds' own words. -/
import Derived.Test.YtegndehoiodjeaaDoorPrint0
import Derived.Test.YtegndehoiodjeaaDoorShelf
import Derived.Lib.Bytealg
namespace Go.Proofs.YtegndehoiodjeaaDoor.Print
open Go.RowKit Go.Proofs.YtegndehoiodjeaaDoorW.PrintWords Go.Proofs.YtegndehoiodjeaaDoorW.PrintLast Go.Proofs.YtegndehoiodjeaaDoorW.PrintMore
set_option linter.unusedVariables false
set_option linter.unusedSimpArgs false

def strings_IndexByte.f (a0 : ByteArray) (a1 : Int) : Option Int := some (Lib.indexByte a0.data.toList a1.toNat.toUInt8)
theorem strings_IndexByte.calls (a0 : ByteArray) (a1 r : Int) (w : World) (h : strings_IndexByte.f a0 a1 = some r) :
    Calls Tryd.prog 37 #[.string a0, .int .u8 a1] w fun e w' => e = .returned (.int .i64 r) ∧ Below w.heap.size w w' :=
  (Tryd.strings_IndexByte a0 a1 w).mono fun e w' ⟨he, hw⟩ => ⟨by rw [he]; rw [← Option.some.inj h], by rw [hw]; exact Below.refl _ _⟩
end Go.Proofs.YtegndehoiodjeaaDoor.Print
