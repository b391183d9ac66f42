/- Statement NumberPrints, the plain law: what the walk shows is what the statement says. -/
import Derived.Test.YtgobcejjefgkcaaDoorNpr
namespace Go.Proofs.YtgobcejjefgkcaaDoor.Pure
open Go.RowKit Go.Proofs.YtgobcejjefgkcaaDoor.Print Go.Proofs.YtgobcejjefgkcaaDoorW.PrintWords Go.Proofs.YtgobcejjefgkcaaDoorW.PrintLast

theorem NumberPrints : figureheadlaw15_NumberPrints.Pure := fun a0 a1 _ _ h => by
  unfold figureheadlaw15_NumberPrints.f
  rw [if_pos (by omega)]

end Go.Proofs.YtgobcejjefgkcaaDoor.Pure
