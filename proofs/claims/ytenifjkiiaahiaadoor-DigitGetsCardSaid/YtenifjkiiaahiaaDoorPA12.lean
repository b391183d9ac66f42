/- Layer 12's example: what a program that does nothing does not answer. -/
import Derived.Test.YtenifjkiiaahiaaDoorPD
namespace Go.Proofs.YtenifjkiiaahiaaDoor.Pure
open Go.RowKit Go.Lib Go.Proofs.YtenifjkiiaahiaaDoor.Print Go.Proofs.YtenifjkiiaahiaaDoor.U Go.Proofs.YtenifjkiiaahiaaDoor.Utf Go.Proofs.YtenifjkiiaahiaaDoorW.PrintWords
set_option linter.unusedVariables false
set_option linter.unusedSimpArgs false

theorem all_of12 (l : List Int) (h : l.all Lib.validRune = true) : All l := (all_iff l).1 h
theorem formD : TextForm [217, 161, 217, 162] [1633, 1634] [] := ⟨all_of12 _ (by decide +kernel), by decide +kernel, .inl rfl⟩
theorem formE : TextForm [217, 161, 217, 162, 120] [1633, 1634, 120] [] := ⟨all_of12 _ (by decide +kernel), by decide +kernel, .inl rfl⟩
theorem answers12 : Ev (fun k => figureheadlaw12_answers.f k) true := by
  simp only [figureheadlaw12_answers.f]
  have h1 := put_val 1632 (by decide +kernel) ⟨#[49, 50]⟩ (by decide)
  rw [show (if (L ⟨#[49, 50]⟩).all digB = true then (⟨(encAll (toZ 1632 (L ⟨#[49, 50]⟩))).toArray⟩ : ByteArray) else ⟨#[]⟩) = ⟨#[217, 161, 217, 162]⟩ from by decide +kernel] at h1
  have h2 := get_val 1632 (by decide +kernel) ⟨#[217, 161, 217, 162]⟩ (by decide) [1633, 1634] [] formD
  rw [show getR 1632 [1633, 1634] [] = (⟨#[49, 50]⟩, true) from by decide +kernel] at h2
  have h3 := run_val 1632 ⟨#[217, 161, 217, 162, 120]⟩ (by decide) [1633, 1634, 120] [] formE
  rw [show ((encAll (List.takeWhile (isZ 1632) [1633, 1634, 120])).length : Int) = 4 from by decide +kernel] at h3
  rw [h1]
  simp only [Option.bind_some]
  rw [h2]
  simp only [Option.bind_some]
  refine pos (by decide +kernel) (pos (by simp) (pos (by decide +kernel) (pos (by decide +kernel) ?_)))
  rw [show ((⟨#[217, 161, 217, 162]⟩ : ByteArray) ++ (⟨#[120]⟩ : ByteArray)) = ⟨#[217, 161, 217, 162, 120]⟩ from by decide +kernel, h3]
  simp only [Option.bind_some]
  refine pos (by simp) (Ev.bind (good_ev 48) (pos (by decide +kernel) (Ev.bind (is_ev 48 57) (pos (by decide +kernel) (Ev.bind (is_ev 48 58) ?_)))))
  rw [show isZ 48 58 = false from by decide +kernel]
  exact Ev.now _
end Go.Proofs.YtenifjkiiaahiaaDoor.Pure
