/- Statement ClearTwo, the plain law: what the walk shows is what the statement says. -/
import Derived.Test.YtkgdpgoianimjaaKf0
namespace Go.Proofs.Ytkgdpgoianimjaa.Pure
open Go.RowKit Go.Proofs.Ytkgdpgoianimjaa.Print Go.Proofs.YtkgdpgoianimjaaW.PrintWords Go.Proofs.YtkgdpgoianimjaaW.PrintLast

theorem ClearTwo : figureheadlaw21_ClearTwo.Pure := fun a0 z s1 s2 s3 s4 s5 s6 s7 s8 _ hw hb => by
  unfold figureheadlaw21_ClearTwo.f
  exact if_pos ⟨by omega, small_of hw (by omega)⟩

end Go.Proofs.Ytkgdpgoianimjaa.Pure
