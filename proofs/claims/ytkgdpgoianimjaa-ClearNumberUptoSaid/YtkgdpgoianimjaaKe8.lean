/- ClearTells: the law's own walk. -/
import Derived.Test.YtkgdpgoianimjaaKeb
namespace Go.Proofs.Ytkgdpgoianimjaa.Print
open Go.RowKit Go.Lib Go.Proofs.Ytkgdpgoianimjaa.Utf Go.Proofs.Ytkgdpgoianimjaa.Pure Go.Proofs.YtkgdpgoianimjaaW.PrintWords Go.Proofs.YtkgdpgoianimjaaW.PrintLast Go.Proofs.YtkgdpgoianimjaaW.PrintMore
set_option linter.unusedVariables false
set_option linter.unusedSimpArgs false
/-! ### the statement -/
theorem small_of {z : Int} {s1 s2 s3 s4 s5 s6 s7 s8 : ByteArray} (hw : wf23 (⟨z, s1, s2, s3, s4, s5, s6, s7, s8⟩ : S23)) (hb : bulk23 (⟨z, s1, s2, s3, s4, s5, s6, s7, s8⟩ : S23) ≤ 1048576) : smallS z s1 s2 s3 s4 s5 s6 s7 s8 := by
  unfold bulk23 at hb
  simp only at hb
  have hz : z ≤ 2147483647 := by
    have h0 : -2147483648 ≤ z ∧ z ≤ 2147483647 := by simpa [Lit.wf, IntKind.min, IntKind.max, IntKind.signed, IntKind.bits] using hw.1
    exact h0.2
  exact ⟨hz, by omega, by omega, by omega, by omega, by omega, by omega, by omega, by omega⟩
end Go.Proofs.Ytkgdpgoianimjaa.Print
