/- Functions of the program as Lean functions, and that the program's calls answer so: printed by this session's own program (wip/tools/pext.py) out of the translation. Conditions: each theorem's own. Not trusted: Lean checks it. -/
import Derived.Test.YtegcjanglneciaaDoorPrint0
import Derived.Test.YtegcjanglneciaaDoorFV
namespace Go.Proofs.YtegcjanglneciaaDoor.Print
open Go.RowKit Go.Proofs.YtegcjanglneciaaDoorW.PrintWords Go.Proofs.YtegcjanglneciaaDoorW.PrintLast Go.Proofs.YtegcjanglneciaaDoorW.PrintMore
attribute [local go_sem] max2_int min2_int max_two min_two max_three min_three max_four min_four   -- for this text's walks alone
set_option linter.unusedVariables false
set_option linter.unusedSimpArgs false

-- FOREIGN: function 3 (figureheadlaw11_UtfTurned)

/-- THE ONE PURE STATEMENT of figureheadlaw11_UtfTurned. -/
def figureheadlaw11_UtfTurned.Pure : Prop := ∀ (a0 : ByteArray) (a1 : Int) (a2 : Int), a0.size ≤ 140737488351232 → (Lit.int .u16 a1).wf = true → (Lit.int .u8 a2).wf = true → figureheadlaw11_UtfTurned.f a0 a1 a2 = some true

end Go.Proofs.YtegcjanglneciaaDoor.Print
