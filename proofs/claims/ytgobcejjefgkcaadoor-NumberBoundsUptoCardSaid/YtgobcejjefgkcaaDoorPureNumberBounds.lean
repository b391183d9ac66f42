/- Statement NumberBounds, the plain law: what the walk shows is what the statement says. -/
import Derived.Test.YtgobcejjefgkcaaDoorNt
namespace Go.Proofs.YtgobcejjefgkcaaDoor.Pure
open Go.RowKit Go.Proofs.YtgobcejjefgkcaaDoor.Print Go.Proofs.YtgobcejjefgkcaaDoorW.PrintWords Go.Proofs.YtgobcejjefgkcaaDoorW.PrintLast

theorem NumberBounds : figureheadlaw15_NumberBounds.Pure := fun a0 _ h => by
  unfold figureheadlaw15_NumberBounds.f
  rw [if_pos (by omega)]

end Go.Proofs.YtgobcejjefgkcaaDoor.Pure
