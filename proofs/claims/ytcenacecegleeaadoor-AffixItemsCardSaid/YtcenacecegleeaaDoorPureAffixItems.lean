/- The law AffixItems, the plain side: the items of any tokens, or where a mark stands. -/
import Derived.Test.YtcenacecegleeaaDoorPA14
import Derived.Test.YtcenacecegleeaaDoorPrint8
namespace Go.Proofs.YtcenacecegleeaaDoor.Pure
open Go.RowKit Go.Lib Go.Proofs.YtcenacecegleeaaDoor.Print Go.Proofs.YtcenacecegleeaaDoor.U Go.Proofs.YtcenacecegleeaaDoor.Utf Go.Proofs.YtcenacecegleeaaDoorW.PrintWords
set_option linter.unusedVariables false
set_option linter.unusedSimpArgs false

theorem AffixItems : figureheadlaw14_AffixItems.Pure := by
  intro l hl hw
  refine Ev.rounds (r := true) ?_
  simp only [figureheadlaw14_AffixItems.f]
  rw [answers14]
  by_cases h : (l.length : Int) > 500
  · exact pos h (Ev.now _)
  refine neg h ?_
  have hlen := itemsGo_len l []
  simp only [List.length_nil] at hlen
  rw [items_val l (by omega)]
  simp only [Option.bind_some]
  refine Ev.bind (refItems_ev l (by omega)) (pos trivial (pos (by simp) (Ev.bind (sameI_true _ (by omega)) (Ev.now _))))
end Go.Proofs.YtcenacecegleeaaDoor.Pure
