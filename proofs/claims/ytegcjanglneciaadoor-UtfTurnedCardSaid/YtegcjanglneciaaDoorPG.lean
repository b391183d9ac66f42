/- Scalars and digits of a system, the plain side: what Scalar and Good answer. -/
import Derived.Test.YtegcjanglneciaaDoorPrint1
import Derived.Test.YtegcjanglneciaaDoorU
import Derived.Test.YtegcjanglneciaaDoorU
namespace Go.Proofs.YtegcjanglneciaaDoor.Pure
open Go.RowKit Go.Lib Go.Proofs.YtegcjanglneciaaDoor.Print Go.Proofs.YtegcjanglneciaaDoor.U Go.Proofs.YtegcjanglneciaaDoor.Utf Go.Proofs.YtegcjanglneciaaDoorW.PrintWords
set_option linter.unusedVariables false
set_option linter.unusedSimpArgs false

/-! ### scalars -/
theorem valid_j0 (r : Int) : Ev (fun k => utf8_ValidRune.j0 k r false) (decide (57343 < r ∧ r ≤ 1114111)) := by
  refine succ ?_
  simp only [utf8_ValidRune.j0]
  refine neg (by simp) ?_
  by_cases h1 : 57343 < r
  · refine pos h1 ?_
    by_cases h2 : r ≤ 1114111
    · rw [decide_eq_true ⟨h1, h2⟩]; exact pos h2 (Ev.now _)
    · rw [decide_eq_false (fun h => h2 h.2)]; exact neg h2 (Ev.now _)
  · rw [decide_eq_false (fun h => h1 h.1)]; exact neg h1 (Ev.now _)
theorem valid_ev (r : Int) : Ev (fun k => utf8_ValidRune.f k r) (Lib.validRune r) := by
  simp only [utf8_ValidRune.f]
  by_cases h0 : 0 ≤ r
  · refine pos h0 ?_
    by_cases h1 : r < 55296
    · rw [decide_eq_true h1, show Lib.validRune r = true from (ok_iff r).2 (.inl ⟨h0, h1⟩)]
      refine succ ?_
      simp only [utf8_ValidRune.j0]
      exact pos (by simp) (Ev.now _)
    · rw [decide_eq_false h1, show Lib.validRune r = decide (57343 < r ∧ r ≤ 1114111) from by unfold Lib.validRune; apply decide_eq_decide.2; omega]
      exact valid_j0 r
  · refine neg h0 ?_
    rw [show Lib.validRune r = decide (57343 < r ∧ r ≤ 1114111) from by unfold Lib.validRune; apply decide_eq_decide.2; omega]
    exact valid_j0 r
theorem scalar_ev (r : Int) : Ev (fun k => utf_Scalar.f k r) (Lib.validRune r) := by
  simp only [utf_Scalar.f]
  exact Ev.bind (valid_ev r) (Ev.now _)

end Go.Proofs.YtegcjanglneciaaDoor.Pure
