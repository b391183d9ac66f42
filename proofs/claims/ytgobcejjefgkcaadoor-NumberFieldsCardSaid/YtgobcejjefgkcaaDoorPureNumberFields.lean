/- Statement NumberFields, the plain law: what the walk shows is what the statement says. -/
import Derived.Test.YtgobcejjefgkcaaDoorNfd
namespace Go.Proofs.YtgobcejjefgkcaaDoor.Pure
open Go.RowKit Go.Proofs.YtgobcejjefgkcaaDoor.Print Go.Proofs.YtgobcejjefgkcaaDoorW.PrintWords Go.Proofs.YtgobcejjefgkcaaDoorW.PrintLast

theorem NumberFields : figureheadlaw15_NumberFields.Pure := fun _ _ _ _ _ _ _ _ _ _ _ _ _ _ _ _ _ _ _ _ _ => rfl

end Go.Proofs.YtgobcejjefgkcaaDoor.Pure
