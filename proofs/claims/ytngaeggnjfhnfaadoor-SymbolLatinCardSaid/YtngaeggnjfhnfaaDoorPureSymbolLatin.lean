/- The law SymbolLatin, the plain side: the symbols that are known best are good, and each sign of theirs is the one that patterns have. -/
import Derived.Test.YtngaeggnjfhnfaaDoorPrint9
import Derived.Test.YtngaeggnjfhnfaaDoorPA18
namespace Go.Proofs.YtngaeggnjfhnfaaDoor.Pure
open Go.RowKit Go.Lib Go.Proofs.YtngaeggnjfhnfaaDoor.Print Go.Proofs.YtngaeggnjfhnfaaDoor.U Go.Proofs.YtngaeggnjfhnfaaDoor.Utf Go.Proofs.YtngaeggnjfhnfaaDoorW.PrintWords
set_option linter.unusedVariables false
set_option linter.unusedSimpArgs false

theorem fiver {x : Int} (h : 0 ≤ x ∧ x ≤ 255) : wrap64 ((wrap64 (Int.tmod x 5)) + 2) = 2 ∨ wrap64 ((wrap64 (Int.tmod x 5)) + 2) = 3 ∨ wrap64 ((wrap64 (Int.tmod x 5)) + 2) = 4 ∨ wrap64 ((wrap64 (Int.tmod x 5)) + 2) = 5 ∨ wrap64 ((wrap64 (Int.tmod x 5)) + 2) = 6 := by
  rw [Int.tmod_eq_emod_of_nonneg h.1, w64 (x := x % 5) (by omega) (by omega), w64 (by omega) (by omega)]
  omega
theorem SymbolLatin : figureheadlaw18_SymbolLatin.Pure := by
  intro a ha
  refine ⟨40, ?_⟩
  unfold figureheadlaw18_SymbolLatin.f
  rcases fiver (u8_wf ha) with e | e | e | e | e <;> rw [e] <;> decide +kernel
end Go.Proofs.YtngaeggnjfhnfaaDoor.Pure
