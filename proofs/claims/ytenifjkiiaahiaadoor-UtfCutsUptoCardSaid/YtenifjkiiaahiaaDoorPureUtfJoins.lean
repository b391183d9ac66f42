/- The law UtfJoins, the plain side: two right texts are one that is right, of all code points; what is not right stays so behind a right one, at its place. -/
import Derived.Test.YtenifjkiiaahiaaDoorPureUtfRunes
namespace Go.Proofs.YtenifjkiiaahiaaDoor.Pure
open Go.RowKit Go.Lib Go.Proofs.YtenifjkiiaahiaaDoor.Print Go.Proofs.YtenifjkiiaahiaaDoor.U Go.Proofs.YtenifjkiiaahiaaDoor.Utf Go.Proofs.YtenifjkiiaahiaaDoorW.PrintWords
set_option linter.unusedVariables false
set_option linter.unusedSimpArgs false

theorem UtfJoins : figureheadlaw11_UtfJoins.Pure := by
  intro a b hsa hsb
  refine Ev.rounds (r := true) ?_
  simp only [figureheadlaw11_UtfJoins.f]
  have yes : ∀ x : Bool, x = true → Ev (fun k => figureheadlaw11_UtfJoins.j0 k a b x) true := fun x hx => by
    subst hx
    refine succ ?_
    simp only [figureheadlaw11_UtfJoins.j0]
    exact pos (by simp) (Ev.bind answers11 (Ev.now _))
  by_cases h : (a.size : Int) > 500
  · exact pos h (yes _ rfl)
  refine neg h ?_
  by_cases h2 : (b.size : Int) > 500
  · exact pos h2 (yes _ rfl)
  refine neg h2 ?_
  obtain ⟨rs, ra, hf⟩ := form (L a)
  rw [bad_val a (by omega) rs ra hf]
  simp only [Option.bind_some]
  by_cases hr : ra = []
  · rw [if_pos hr]
    subst hr
    refine succ ?_
    simp only [figureheadlaw11_UtfJoins.j0]
    refine neg (by simp) ?_
    obtain ⟨ss, rb, hg⟩ := form (L b)
    have hab : TextForm (L (a ++ b)) (rs ++ ss) rb := by rw [L_app]; exact form_app hf hg
    have hsz := size_app a b
    have l1 := form_len hf
    have l2 := form_len hg
    have la : (encAll rs).length = a.size := by
      have := congrArg List.length hf.2.1
      rw [L_len, List.append_nil] at this
      exact this.symm
    rw [bad_val b (by omega) ss rb hg, bad_val (a ++ b) (by omega) _ rb hab]
    simp only [Option.bind_some]
    by_cases hrb : rb = []
    · rw [if_pos hrb, if_pos hrb]
      refine neg (by decide) (Ev.bind answers11 (pos rfl (pos (by omega) (pos rfl ?_))))
      rw [count_val (a ++ b) (by omega) _ rb hab, count_val a (by omega) _ [] hf, count_val b (by omega) _ rb hg, if_pos hrb, if_pos rfl, if_pos hrb]
      simp only [Option.bind_some]
      rw [w64 (by omega) (by omega)]
      simp only [List.length_append]
      refine mk (fun _ => ?_)
      simp
    · rw [if_neg hrb, if_neg hrb]
      refine pos (by omega) (Ev.bind answers11 (pos rfl (pos (by omega) ?_)))
      rw [w64 (by omega) (by omega), encAll_app, List.length_append, la]
      refine mk (fun _ => ?_)
      simp
  · rw [if_neg hr]
    exact yes _ (decide_eq_true (by omega))
end Go.Proofs.YtenifjkiiaahiaaDoor.Pure
