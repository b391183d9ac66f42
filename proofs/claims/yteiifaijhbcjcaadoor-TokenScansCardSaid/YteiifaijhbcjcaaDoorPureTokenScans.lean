/- The law TokenScans, the plain side: the tokens of any bytes, each at its place, or why there are none. -/
import Derived.Test.YteiifaijhbcjcaaDoorPT
import Derived.Test.YteiifaijhbcjcaaDoorPrint8
namespace Go.Proofs.YteiifaijhbcjcaaDoor.Pure
open Go.RowKit Go.Lib Go.Proofs.YteiifaijhbcjcaaDoor.Print Go.Proofs.YteiifaijhbcjcaaDoor.U Go.Proofs.YteiifaijhbcjcaaDoor.Utf Go.Proofs.YteiifaijhbcjcaaDoorW.PrintWords
set_option linter.unusedVariables false
set_option linter.unusedSimpArgs false

theorem places_l0 (l : List S31) (hb : l.length ≤ 1000000) : ∀ (d i : Nat), i + d = l.length → Ev (fun k => figureheadlaw13_TokenScans.l0 k l l (i : Int)) true
  | 0, i, hd => by
    refine succ ?_
    simp only [figureheadlaw13_TokenScans.l0]
    rw [answers13]
    exact neg (by omega) (Ev.now _)
  | d + 1, i, hd => by
    refine succ ?_
    simp only [figureheadlaw13_TokenScans.l0]
    rw [w64 (by omega) (by omega)]
    refine pos (by omega) (pos (by omega) (pos (by omega) (pos trivial ?_)))
    have := places_l0 l hb d (i + 1) (by omega)
    simpa using this
theorem TokenScans : figureheadlaw13_TokenScans.Pure := by
  intro s hs
  refine Ev.rounds (r := true) ?_
  simp only [figureheadlaw13_TokenScans.f]
  by_cases h : (s.size : Int) > 2000
  · rw [answers13]; exact pos h (Ev.now _)
  refine neg h ?_
  obtain ⟨⟨l, e, a⟩, h1, h2⟩ := scan_both s (by omega)
  have hl : l.length ≤ 400 := scan_len s _ h1
  rw [h1]
  simp only [Option.bind_some]
  refine Ev.bind h2 (neg (by simp) (Ev.bind (sameT_ev l l (by omega)) ?_))
  refine succ ?_
  simp only [figureheadlaw13_TokenScans.j0]
  refine neg (by simp) ?_
  have := places_l0 l (by omega) l.length 0 (by omega)
  simpa using this
end Go.Proofs.YteiifaijhbcjcaaDoor.Pure
