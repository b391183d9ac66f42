/- The law DigitPuts, the plain side: any digits in any system; they come again. -/
import Derived.Test.YtenifjkiiaahiaaDoorPureDigitSystems
namespace Go.Proofs.YtenifjkiiaahiaaDoor.Pure
open Go.RowKit Go.Lib Go.Proofs.YtenifjkiiaahiaaDoor.Print Go.Proofs.YtenifjkiiaahiaaDoor.U Go.Proofs.YtenifjkiiaahiaaDoor.Utf Go.Proofs.YtenifjkiiaahiaaDoorW.PrintWords
set_option linter.unusedVariables false
set_option linter.unusedSimpArgs false

theorem encAll_toZ_len (z : Int) (l : List UInt8) : (encAll (toZ z l)).length ≤ 4 * l.length := by
  have := encAll_len (toZ z l)
  simpa [toZ] using this
theorem toZ_ne (z : Int) (l : List UInt8) : toZ z l = [] ↔ l = [] := by simp [toZ]
theorem all_isZ (z : Int) (hg : goodZ z = true) (l : List UInt8) (h : l.all digB = true) : (toZ z l).all (isZ z) = true := List.all_eq_true.2 (toZ_isZ z hg l h)
theorem DigitPuts : figureheadlaw12_DigitPuts.Pure := by
  intro z s hz hs
  have hz2 := i32_wf hz
  refine Ev.rounds (r := true) ?_
  simp only [figureheadlaw12_DigitPuts.f]
  have yes : ∀ x : Bool, x = true → Ev (fun k => figureheadlaw12_DigitPuts.j0 k z s x) true := fun x hx => by
    subst hx
    refine succ ?_
    simp only [figureheadlaw12_DigitPuts.j0]
    exact pos (by simp) (Ev.bind answers12 (Ev.now _))
  by_cases h0 : z < 0
  · exact pos h0 (yes _ rfl)
  refine neg h0 (Ev.bind (zero_ev z (by omega) hz2.2) ?_)
  by_cases hg : goodZ z = true
  · refine pos hg ?_
    by_cases h1 : (s.size : Int) > 500
    · exact yes _ (decide_eq_true h1)
    rw [decide_eq_false h1]
    refine succ ?_
    simp only [figureheadlaw12_DigitPuts.j0]
    refine neg (by simp) ?_
    rw [put_val z hg s (by omega)]
    simp only [Option.bind_some]
    have fin : (L s).all digB = true → Ev (fun k => figureheadlaw12_DigitPuts.j1 k z s ⟨(encAll (toZ z (L s))).toArray⟩ false) true := fun hd => by
      refine succ ?_
      simp only [figureheadlaw12_DigitPuts.j1]
      refine neg (by simp) ?_
      have hlen := encAll_toZ_len z (L s)
      rw [L_len] at hlen
      have hform : TextForm (L ⟨(encAll (toZ z (L s))).toArray⟩) (toZ z (L s)) [] := by rw [L_mk]; exact form_enc _ (toZ_all z hg _ hd)
      rw [get_val z hg _ (by rw [size_mk]; omega) _ [] hform, run_val z _ (by rw [size_mk]; omega) _ [] hform]
      simp only [Option.bind_some]
      refine Ev.bind answers12 (pos rfl (Ev.bind (refPut_ev z hg s (by omega) hd) (pos rfl ?_)))
      rw [takeWhile_all _ _ (all_isZ z hg _ hd), size_mk, toList_L, toList_L]
      unfold getR
      by_cases hn : L s = []
      · rw [if_neg (show ¬ (toZ z (L s) ≠ [] ∧ ([] : List UInt8) = [] ∧ (toZ z (L s)).all (isZ z) = true) from fun h => h.1 ((toZ_ne z _).2 hn))]
        simp only [hn]
        exact pos (by simp) (pos (by simp) (mk (fun _ => by simp)))
      · rw [if_pos (show toZ z (L s) ≠ [] ∧ ([] : List UInt8) = [] ∧ (toZ z (L s)).all (isZ z) = true from ⟨fun h => hn ((toZ_ne z _).1 h), rfl, all_isZ z hg _ hd⟩)]
        simp only [L_mk, fromZ_toZ z _ hd]
        exact pos (by simp [hn]) (pos (by simp) (mk (fun _ => by simp)))
    by_cases hn : L s = []
    · refine pos (by rw [toList_L]; exact hn) ?_
      have hd : (L s).all digB = true := by rw [hn]; rfl
      rw [if_pos hd]
      exact fin hd
    · refine neg (by rw [toList_L]; exact hn) (Ev.bind (digits_ev s (by omega)) ?_)
      by_cases hd : (L s).all digB = true
      · rw [if_pos hd, hd, decide_eq_true hn]
        exact fin hd
      · have hd2 : (L s).all digB = false := by simpa using hd
        rw [if_neg hd, hd2]
        refine succ ?_
        simp only [figureheadlaw12_DigitPuts.j1]
        refine pos (by simp) (Ev.bind answers12 (pos rfl ?_))
        exact mk (fun _ => by rw [toList_L]; rfl)
  · exact neg hg (yes _ rfl)
end Go.Proofs.YtenifjkiiaahiaaDoor.Pure
