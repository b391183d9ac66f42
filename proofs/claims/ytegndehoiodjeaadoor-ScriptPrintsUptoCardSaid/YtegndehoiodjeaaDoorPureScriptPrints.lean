/- The law ScriptPrints, the plain side: the text of any commands; they come again out of it. -/
import Derived.Test.YtegndehoiodjeaaDoorPq
import Derived.Test.YtegndehoiodjeaaDoorPrint9
namespace Go.Proofs.YtegndehoiodjeaaDoor.Pure
open Go.RowKit Go.Lib Go.Proofs.YtegndehoiodjeaaDoor.Print Go.Proofs.YtegndehoiodjeaaDoor.U Go.Proofs.YtegndehoiodjeaaDoor.Q Go.Proofs.YtegndehoiodjeaaDoorW.PrintWords
set_option linter.unusedVariables false
set_option linter.unusedSimpArgs false

theorem ScriptPrints : figureheadlaw25_ScriptPrints.Pure := by
  intro l h1 h2 h3
  have hg : ∀ x ∈ l, goodC x := fun x hx => good_of x (h2 x hx) (by have := bulk_le hx; omega)
  have hl := text_len l hg
  have hn := len_bulk l
  refine Ev.rounds (r := true) ?_
  simp only [figureheadlaw25_ScriptPrints.f]
  rw [print_val l hg (by omega)]
  simp only [Option.bind_some]
  have hp := parse_ev ⟨(textL (l.map cmOf)).toArray⟩ (by rw [U.size_mk]; omega)
  rw [L_mk, read_text _ (fun c hc => by obtain ⟨x, hx, rfl⟩ := List.mem_map.1 hc; exact cmOf_ok x (hg x hx))] at hp
  have hr := refprint_ev l hg (by omega) (by omega)
  refine Ev.bind hp (Ev.bind answers_ev (pos rfl (Ev.bind hr (pos rfl (pos rfl (pos rfl ?_))))))
  have e : (resP (l.map cmOf, 0, 0)).1 = l := all_back l
  rw [e]
  exact Ev.bind hr (mk (fun _ => by simp))
end Go.Proofs.YtegndehoiodjeaaDoor.Pure
