/- The reference's ReadLine, the plain side. -/
import Derived.Test.YtegndehoiodjeaaDoorPs
import Derived.Test.YtegndehoiodjeaaDoorFRl
namespace Go.Proofs.YtegndehoiodjeaaDoor.Pure
open Go.RowKit Go.Lib Go.Proofs.YtegndehoiodjeaaDoor.Print Go.Proofs.YtegndehoiodjeaaDoor.U Go.Proofs.YtegndehoiodjeaaDoor.Q Go.Proofs.YtegndehoiodjeaaDoorW.PrintWords
set_option linter.unusedVariables false
set_option linter.unusedSimpArgs false

/-! ### Read -/
theorem rl_val (p : ByteArray) (hp : p.size ≤ 1000000000) : ∃ y b, figureheadref25_ReadLine.f p = some (flatC y b) ∧ (match readW (splitC 32 (L p)) with | some c => y = ofCm c ∧ b = true | none => b = false) := by
  unfold figureheadref25_ReadLine.f figureheadref25_ReadLine.g
  rw [if_pos hp]
  cases h : readW (splitC 32 (L p)) with
  | none => exact ⟨_, _, rfl, rfl⟩
  | some c => exact ⟨_, _, rfl, rfl, rfl⟩
end Go.Proofs.YtegndehoiodjeaaDoor.Pure
