/- Layer 11's example: what a program that does nothing does not answer. -/
import Derived.Test.YtegcjanglneciaaDoorPU
namespace Go.Proofs.YtegcjanglneciaaDoor.Pure
open Go.RowKit Go.Lib Go.Proofs.YtegcjanglneciaaDoor.Print Go.Proofs.YtegcjanglneciaaDoor.U Go.Proofs.YtegcjanglneciaaDoor.Utf Go.Proofs.YtegcjanglneciaaDoorW.PrintWords
set_option linter.unusedVariables false
set_option linter.unusedSimpArgs false

theorem all_of (l : List Int) (h : l.all Lib.validRune = true) : All l := (all_iff l).1 h
theorem formA : TextForm [97, 226, 130, 172] [97, 8364] [] := ⟨all_of _ (by decide +kernel), by decide +kernel, .inl rfl⟩
theorem formB : TextForm [97, 226, 130] [97] [226, 130] := ⟨all_of _ (by decide +kernel), by decide +kernel, .inr (by unfold Bad; decide +kernel)⟩
theorem formC : TextForm [97] [97] [] := ⟨all_of _ (by decide +kernel), by decide +kernel, .inl rfl⟩
theorem answers11 : Ev (fun k => figureheadlaw11_answers.f k) true := by
  simp only [figureheadlaw11_answers.f]
  have h1 := runes_val ⟨#[97, 226, 130, 172]⟩ (by decide) [97, 8364] [] formA
  have h2 := text_val [8364] (by decide)
  have h3 := bad_val ⟨#[97, 226, 130]⟩ (by decide) [97] [226, 130] formB
  have h4 := bad_val ⟨#[97]⟩ (by decide) [97] [] formC
  have h5 := count_val ⟨#[97, 226, 130, 172]⟩ (by decide) [97, 8364] [] formA
  rw [if_pos rfl] at h1 h4 h5
  rw [if_pos (by decide +kernel)] at h2
  rw [if_neg (by decide)] at h3
  rw [h1, h2]
  simp only [Option.bind_some]
  refine pos (by simp) (pos (by decide) (pos (by decide) (pos (by decide) (pos (by simp) (pos (by decide +kernel) ?_)))))
  rw [h3]
  simp only [Option.bind_some]
  refine pos (by decide +kernel) ?_
  rw [h4]
  simp only [Option.bind_some]
  refine pos (by simp) ?_
  rw [h5]
  simp only [Option.bind_some]
  refine pos (by decide) (Ev.bind (scalar_ev 97) (pos (by decide +kernel) (Ev.bind (scalar_ev 55296) ?_)))
  rw [show Lib.validRune 55296 = false from by decide +kernel]
  exact Ev.now _
end Go.Proofs.YtegcjanglneciaaDoor.Pure
