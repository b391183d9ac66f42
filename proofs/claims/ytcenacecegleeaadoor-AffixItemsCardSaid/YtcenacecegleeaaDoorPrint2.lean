/- Functions of the program as Lean functions, and that the program's calls answer so: printed by this session's own program (wip/tools/pext.py) out of the translation. Conditions: each theorem's own. Not trusted: Lean checks it. -/
import Derived.Test.YtcenacecegleeaaDoorPrint0
namespace Go.Proofs.YtcenacecegleeaaDoor.Print
open Go.RowKit Go.Proofs.YtcenacecegleeaaDoorW.PrintWords Go.Proofs.YtcenacecegleeaaDoorW.PrintLast Go.Proofs.YtcenacecegleeaaDoorW.PrintMore
attribute [local go_sem] max2_int min2_int max_two min_two max_three min_three max_four min_four   -- for this text's walks alone
set_option linter.unusedVariables false
set_option linter.unusedSimpArgs false

theorem eqA43 (d : Nat) (w : World) (x0 y0 : Int) (x1 y1 : Int) :
    (Op.equalIn (d + 2) 43 (.agg #[.int .i64 x0, .int .i32 x1]) (.agg #[.int .i64 y0, .int .i32 y1])).run Tryd.prog w = .ok (x0 == y0 && (x1 == y1)) w := by
  refine eqA_of Tryd.underlying43 (by kernel_rfl) ?_
  refine eqf_cons (by rfl) (by go_simp; rfl) (by go_simp; rfl) (by go_simp) ?_
  exact eqf_last (by rfl) (by go_simp; rfl) (by go_simp; rfl) (by go_simp)
end Go.Proofs.YtcenacecegleeaaDoor.Print
