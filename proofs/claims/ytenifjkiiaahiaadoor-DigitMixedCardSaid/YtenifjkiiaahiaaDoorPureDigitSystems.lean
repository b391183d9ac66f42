/- The law DigitSystems, the plain side: where ten digits may begin, and which code points they are. -/
import Derived.Test.YtenifjkiiaahiaaDoorPA12
namespace Go.Proofs.YtenifjkiiaahiaaDoor.Pure
open Go.RowKit Go.Lib Go.Proofs.YtenifjkiiaahiaaDoor.Print Go.Proofs.YtenifjkiiaahiaaDoor.U Go.Proofs.YtenifjkiiaahiaaDoor.Utf Go.Proofs.YtenifjkiiaahiaaDoorW.PrintWords
set_option linter.unusedVariables false
set_option linter.unusedSimpArgs false

theorem i32_wf {x : Int} (h : (Lit.int .i32 x).wf = true) : -2147483648 ≤ x ∧ x ≤ 2147483647 := by
  simpa [Lit.wf, IntKind.min, IntKind.max, IntKind.signed, IntKind.bits] using h
theorem DigitSystems : figureheadlaw12_DigitSystems.Pure := by
  intro z r hz hr
  have hz2 := i32_wf hz
  have hr2 := i32_wf hr
  refine Ev.rounds (r := true) ?_
  simp only [figureheadlaw12_DigitSystems.f]
  have nogood : ¬ goodZ z = true → isZ z r = false := fun h => by
    unfold isZ
    have : goodZ z = false := by simpa using h
    rw [this]; rfl
  by_cases h0 : z ≥ 0
  · refine pos h0 (Ev.bind (zero_ev z h0 hz2.2) (Ev.bind answers12 (pos rfl (Ev.bind (good_ev z) (pos (by simp) (Ev.bind (is_ev z r) ?_))))))
    by_cases hg : goodZ z = true
    · have hgi := (good_iff z).1 hg
      refine pos hg ?_
      by_cases h1 : r ≥ z
      · refine pos h1 ?_
        rw [w32' (by omega) (by omega), show isZ z r = decide (r - z < 10) from by
          unfold isZ
          rw [hg, Bool.true_and]
          exact decide_eq_decide.2 (by omega)]
        simp only [beq_self_eq_true]
        exact Ev.now _
      · refine neg h1 ?_
        rw [show isZ z r = false from by
          unfold isZ
          rw [hg, Bool.true_and]
          exact decide_eq_false (by omega)]
        exact Ev.now _
    · refine neg hg ?_
      rw [nogood hg]
      exact Ev.now _
  · have hg : ¬ goodZ z = true := fun h => by have := (good_iff z).1 h; omega
    have hg2 : goodZ z = false := by simpa using hg
    refine neg h0 (Ev.bind answers12 (pos rfl (Ev.bind (good_ev z) (pos (by rw [hg2]; rfl) (Ev.bind (is_ev z r) ?_)))))
    rw [nogood hg]
    exact Ev.now _
end Go.Proofs.YtenifjkiiaahiaaDoor.Pure
