/- Statement NumberParses, the plain law: what the walk shows is what the statement says. -/
import Derived.Test.YtgobcejjefgkcaaDoorNpa
namespace Go.Proofs.YtgobcejjefgkcaaDoor.Pure
open Go.RowKit Go.Proofs.YtgobcejjefgkcaaDoor.Print Go.Proofs.YtgobcejjefgkcaaDoorW.PrintWords Go.Proofs.YtgobcejjefgkcaaDoorW.PrintLast

theorem NumberParses : figureheadlaw15_NumberParses.Pure := fun _ _ => rfl

end Go.Proofs.YtgobcejjefgkcaaDoor.Pure
