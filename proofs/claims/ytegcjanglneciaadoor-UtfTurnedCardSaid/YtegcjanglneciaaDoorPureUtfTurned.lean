/- The law UtfTurned, the plain side: what is left behind the walk (the walk itself tells that a text of which one byte is another one is not the same code points). -/
import Derived.Test.YtegcjanglneciaaDoorFV
import Derived.Test.YtegcjanglneciaaDoorPrint3
namespace Go.Proofs.YtegcjanglneciaaDoor.Pure
open Go.RowKit Go.Proofs.YtegcjanglneciaaDoor.Print Go.Proofs.YtegcjanglneciaaDoorW.PrintWords
set_option linter.unusedVariables false
set_option linter.unusedSimpArgs false

theorem UtfTurned : figureheadlaw11_UtfTurned.Pure := by
  intro a0 a1 a2 h0 h1 h2
  have b1 : 0 ≤ a1 ∧ a1 ≤ 65535 := by
    simp [Lit.wf] at h1
    have e0 : IntKind.u16.min = 0 := by decide
    have e1 : IntKind.u16.max = 65535 := by decide
    omega
  have b2 : 0 ≤ a2 ∧ a2 ≤ 255 := by
    simp [Lit.wf] at h2
    have e0 : IntKind.u8.min = 0 := by decide
    have e1 : IntKind.u8.max = 255 := by decide
    omega
  unfold figureheadlaw11_UtfTurned.f
  rw [if_pos ⟨b1.1, b1.2, b2.1, b2.2, h0⟩]
end Go.Proofs.YtegcjanglneciaaDoor.Pure
