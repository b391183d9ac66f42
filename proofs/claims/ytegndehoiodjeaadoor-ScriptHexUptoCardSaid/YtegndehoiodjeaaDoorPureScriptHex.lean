/- The law ScriptHex, the plain side: any bytes as digits. -/
import Derived.Test.YtegndehoiodjeaaDoorPs
import Derived.Test.YtegndehoiodjeaaDoorFTl
import Derived.Test.YtegndehoiodjeaaDoorFRh
import Derived.Test.YtegndehoiodjeaaDoorPrint6
namespace Go.Proofs.YtegndehoiodjeaaDoor.Pure
open Go.RowKit Go.Lib Go.Proofs.YtegndehoiodjeaaDoor.Print Go.Proofs.YtegndehoiodjeaaDoor.U Go.Proofs.YtegndehoiodjeaaDoor.Q Go.Proofs.YtegndehoiodjeaaDoorW.PrintWords
set_option linter.unusedVariables false
set_option linter.unusedSimpArgs false

theorem refhexV (s : ByteArray) (hs : s.size ≤ 1000000000000) : figureheadref25_Hex.f s = some ⟨(hexL (L s)).toArray⟩ := by
  unfold figureheadref25_Hex.f
  rw [if_pos hs]
theorem ScriptHex : figureheadlaw25_ScriptHex.Pure := by
  intro s h1 h2
  refine Ev.rounds (r := true) ?_
  simp only [figureheadlaw25_ScriptHex.f]
  refine Ev.bind answers_ev (pos rfl (Ev.bind (hex_ev s (by omega)) ?_))
  rw [refhexV s (by omega)]
  exact mk (fun _ => by simp)
end Go.Proofs.YtegndehoiodjeaaDoor.Pure
