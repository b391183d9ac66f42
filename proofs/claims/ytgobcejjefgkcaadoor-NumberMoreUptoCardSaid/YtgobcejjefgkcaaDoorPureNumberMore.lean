/- Statement NumberMore, the plain law: what the walk shows is what the statement says. -/
import Derived.Test.YtgobcejjefgkcaaDoorNmo
namespace Go.Proofs.YtgobcejjefgkcaaDoor.Pure
open Go.RowKit Go.Proofs.YtgobcejjefgkcaaDoor.Print Go.Proofs.YtgobcejjefgkcaaDoorW.PrintWords Go.Proofs.YtgobcejjefgkcaaDoorW.PrintLast

theorem NumberMore : figureheadlaw15_NumberMore.Pure := fun a0 a1 _ hw h => by
  have hr : 0 ≤ a1 ∧ a1 ≤ 255 := by
    simpa [Lit.wf, IntKind.min, IntKind.max, IntKind.signed, IntKind.bits] using hw
  unfold figureheadlaw15_NumberMore.f
  rw [if_pos ⟨by omega, hr.1, by omega⟩]

end Go.Proofs.YtgobcejjefgkcaaDoor.Pure
