/- The law ScriptReads, the plain side: what commands any text has, or which line is none first. -/
import Derived.Test.YtegndehoiodjeaaDoorPq
import Derived.Test.YtegndehoiodjeaaDoorPw
import Derived.Test.YtegndehoiodjeaaDoorPrint11
namespace Go.Proofs.YtegndehoiodjeaaDoor.Pure
open Go.RowKit Go.Lib Go.Proofs.YtegndehoiodjeaaDoor.Print Go.Proofs.YtegndehoiodjeaaDoor.U Go.Proofs.YtegndehoiodjeaaDoor.Q Go.Proofs.YtegndehoiodjeaaDoorW.PrintWords
set_option linter.unusedVariables false
set_option linter.unusedSimpArgs false

theorem ScriptReads : figureheadlaw25_ScriptReads.Pure := by
  intro s h1 h2
  refine Ev.rounds (r := true) ?_
  simp only [figureheadlaw25_ScriptReads.f]
  refine Ev.bind (parse_ev s (by omega)) (Ev.bind (refread_ev s (by omega)) (Ev.bind answers_ev (pos rfl (pos rfl (pos rfl ?_)))))
  have hr : ∃ r, Ev (fun k => figureheadref25_Print.f k (resP (readT (L s))).1) r := by
    rcases read_cases (L s) with ⟨m, e1, e2, e3⟩ | ⟨n, e1, e2⟩
    · rw [e1]
      have hl : (textL m).length = s.size := by rw [e2, L_len]
      have hg := good_back m e3 (by omega)
      refine ⟨_, refprint_ev (m.map ofCm) hg (by rw [all_back2 m e3]; omega) ?_⟩
      have := len_text m
      rw [List.length_map]
      omega
    · rw [e2]
      exact ⟨_, refprint_ev [] (fun x hx => by cases hx) (by simp [textL]) (by simp)⟩
  obtain ⟨r, hr⟩ := hr
  exact Ev.bind hr (Ev.bind hr (mk (fun _ => by simp)))
end Go.Proofs.YtegndehoiodjeaaDoor.Pure
