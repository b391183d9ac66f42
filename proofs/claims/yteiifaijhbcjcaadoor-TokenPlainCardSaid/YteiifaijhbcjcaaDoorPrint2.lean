/- Functions of the program as Lean functions, and that the program's calls answer so: printed by this session's own program (wip/tools/pext.py) out of the translation. Conditions: each theorem's own. Not trusted: Lean checks it. -/
import Derived.Test.YteiifaijhbcjcaaDoorPrint0
namespace Go.Proofs.YteiifaijhbcjcaaDoor.Print
open Go.RowKit Go.Proofs.YteiifaijhbcjcaaDoorW.PrintWords Go.Proofs.YteiifaijhbcjcaaDoorW.PrintLast Go.Proofs.YteiifaijhbcjcaaDoorW.PrintMore
attribute [local go_sem] max2_int min2_int max_two min_two max_three min_three max_four min_four   -- for this text's walks alone
set_option linter.unusedVariables false
set_option linter.unusedSimpArgs false

theorem eqA31 (d : Nat) (w : World) (x0 y0 : Int) (x1 y1 : Bool) (x2 y2 : Int) :
    (Op.equalIn (d + 2) 31 (.agg #[.int .i32 x0, .bool x1, .int .i64 x2]) (.agg #[.int .i32 y0, .bool y1, .int .i64 y2])).run Tryd.prog w = .ok (x0 == y0 && (x1 == y1 && (x2 == y2))) w := by
  refine eqA_of Tryd.underlying31 (by kernel_rfl) ?_
  refine eqf_cons (by rfl) (by go_simp; rfl) (by go_simp; rfl) (by go_simp) ?_
  refine eqf_cons (by rfl) (by go_simp; rfl) (by go_simp; rfl) (by go_simp) ?_
  exact eqf_last (by rfl) (by go_simp; rfl) (by go_simp; rfl) (by go_simp)
end Go.Proofs.YteiifaijhbcjcaaDoor.Print
