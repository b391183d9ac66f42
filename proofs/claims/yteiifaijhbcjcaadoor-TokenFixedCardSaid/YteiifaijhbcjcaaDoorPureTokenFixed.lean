/- The law TokenFixed, the plain side: what is scanned, and printed, and scanned, is the same tokens; printed once more it is the same text. -/
import Derived.Test.YteiifaijhbcjcaaDoorPT
import Derived.Test.YteiifaijhbcjcaaDoorPrint9
namespace Go.Proofs.YteiifaijhbcjcaaDoor.Pure
open Go.RowKit Go.Lib Go.Proofs.YteiifaijhbcjcaaDoor.Print Go.Proofs.YteiifaijhbcjcaaDoor.U Go.Proofs.YteiifaijhbcjcaaDoor.Utf Go.Proofs.YteiifaijhbcjcaaDoorW.PrintWords
set_option linter.unusedVariables false
set_option linter.unusedSimpArgs false

theorem TokenFixed : figureheadlaw13_TokenFixed.Pure := by
  intro s hs
  refine Ev.rounds (r := true) ?_
  simp only [figureheadlaw13_TokenFixed.f]
  by_cases h : (s.size : Int) > 1000
  · rw [answers13]; exact pos h (Ev.now _)
  refine neg h ?_
  rw [answers13]
  have none_ : ∀ e a : Int, e ≠ 0 → token_Scan.f s = some ([], e, a) → Ev (fun k => (token_Scan.f s).bind fun bt213 => (if bt213.2.1 = 0 then ((token_Print.f bt213.1).bind fun t220 => ((token_Scan.f t220).bind fun bt221 => ((some true : Option Bool).bind fun t227 => (if t227 = true then (if bt221.2.1 = 0 then ((figureheadref13_Same.f k bt213.1 bt221.1).bind fun t228 => (if t228 = true then ((token_Print.f bt221.1).bind fun t229 => (some (t229.toList == t220.toList))) else (some false))) else (some false)) else (some false))))) else ((some true : Option Bool).bind fun t219 => (if t219 = true then (some ((bt213.1.length : Int) == 0)) else (some false))))) true := fun e a he hsc => by
    rw [hsc]
    simp only [Option.bind_some]
    exact neg he (pos trivial (mk (fun _ => by simp)))
  obtain ⟨rs, rest, hf⟩ := form (L s)
  by_cases hr : rest = []
  · subst hr
    obtain ⟨out, o, hsc⟩ := sc_ex rs.length rs 0 (-1) (Nat.le_refl _)
    have he : L s = encAll rs := by rw [hf.2.1, List.append_nil]
    have hg := scan_good s (by omega) rs hf.1 he hsc
    unfold fin13 at hg
    by_cases ho : o ≥ 0
    · rw [if_pos ho] at hg
      exact none_ 3 o (by decide) hg
    rw [if_neg ho] at hg
    by_cases h4 : out.length > 400
    · rw [if_pos h4] at hg
      exact none_ 8 0 (by decide) hg
    rw [if_neg h4] at hg
    have hok := sc_ok hsc hf.1
    obtain ⟨h1, k, h2, h3⟩ := print_scan out (by omega) hok
    have hkl : k.length = out.length := by have := congrArg List.length h3; simpa using this
    have h4 := (print_scan k (by omega) (by rw [okT_key k out h3]; exact hok)).1
    rw [prR_key k out [] h3] at h4
    rw [hg]
    simp only [Option.bind_some]
    refine pos trivial ?_
    rw [h1]
    simp only [Option.bind_some]
    rw [h2]
    simp only [Option.bind_some]
    refine pos trivial (pos trivial (Ev.bind (sameT_ev out k (by omega)) ?_))
    rw [decide_eq_true h3.symm]
    refine pos rfl ?_
    rw [h4]
    exact mk (fun _ => by simp)
  · exact none_ 2 _ (by decide) (scan_bad s (by omega) rs rest hf hr)
end Go.Proofs.YteiifaijhbcjcaaDoor.Pure
