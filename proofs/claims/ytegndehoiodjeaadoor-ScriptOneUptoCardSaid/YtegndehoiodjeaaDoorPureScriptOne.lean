/- The law ScriptOne, the plain side: a text that is read is just the text of what was read. -/
import Derived.Test.YtegndehoiodjeaaDoorPr
import Derived.Test.YtegndehoiodjeaaDoorPrint12
namespace Go.Proofs.YtegndehoiodjeaaDoor.Pure
open Go.RowKit Go.Lib Go.Proofs.YtegndehoiodjeaaDoor.Print Go.Proofs.YtegndehoiodjeaaDoor.U Go.Proofs.YtegndehoiodjeaaDoor.Q Go.Proofs.YtegndehoiodjeaaDoorW.PrintWords
set_option linter.unusedVariables false
set_option linter.unusedSimpArgs false

theorem ScriptOne : figureheadlaw25_ScriptOne.Pure := by
  intro s h1 h2
  refine Ev.rounds (r := true) ?_
  simp only [figureheadlaw25_ScriptOne.f]
  refine Ev.bind (parse_ev s (by omega)) ?_
  rcases read_cases (L s) with ⟨m, e1, e2, e3⟩ | ⟨n, e1, e2⟩
  · rw [e1]
    have hl : (textL m).length = s.size := by rw [e2, L_len]
    have hg := good_back m e3 (by omega)
    refine pos rfl (Ev.bind answers_ev (pos rfl ?_))
    have hp := print_val (m.map ofCm) hg (by rw [all_back2 m e3]; omega)
    rw [all_back2 m e3, e2] at hp
    have hp' : script_Print.f (resP (m, 0, 0)).1 = _ := hp
    rw [hp']
    exact mk (fun _ => by simp [mk_L])
  · rw [e2]
    have hn : (resP (([] : List Cm), n, 16)).2.1 > 0 := by
      show n > 0
      omega
    exact neg (by simp [resP]) (Ev.bind answers_ev (pos rfl (pos rfl (mk (fun _ => congrArg some (decide_eq_true hn))))))
end Go.Proofs.YtegndehoiodjeaaDoor.Pure
