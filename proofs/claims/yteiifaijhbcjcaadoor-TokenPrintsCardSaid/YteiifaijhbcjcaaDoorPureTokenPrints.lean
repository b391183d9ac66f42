/- The law TokenPrints, the plain side: the text of any tokens, which has just these; or that one can not be. -/
import Derived.Test.YteiifaijhbcjcaaDoorPT
import Derived.Test.YteiifaijhbcjcaaDoorPrint9
namespace Go.Proofs.YteiifaijhbcjcaaDoor.Pure
open Go.RowKit Go.Lib Go.Proofs.YteiifaijhbcjcaaDoor.Print Go.Proofs.YteiifaijhbcjcaaDoor.U Go.Proofs.YteiifaijhbcjcaaDoor.Utf Go.Proofs.YteiifaijhbcjcaaDoorW.PrintWords
set_option linter.unusedVariables false
set_option linter.unusedSimpArgs false

theorem may_step (l : List S31) (i : Nat) (hi : i < l.length) : (l.take (i + 1)).all okT = ((l.take i).all okT && okT l[i]) := by
  rw [List.take_succ_eq_append_getElem hi, List.all_append]
  simp
theorem prints_l0 (l : List S31) (hb : l.length ≤ 400) : ∀ (d i : Nat) (b : Bool), i + d = l.length → b = (l.take i).all okT → Ev (fun k => figureheadlaw13_TokenPrints.l0 k l b (i : Int)) true
  | 0, i, b, hd, hbb => by
    refine succ ?_
    simp only [figureheadlaw13_TokenPrints.l0]
    rw [List.take_of_length_le (by omega)] at hbb
    refine neg (by omega) ?_
    by_cases hb2 : b = true
    · have ho : l.all okT = true := by rw [← hbb, hb2]
      obtain ⟨h1, k, h2, h3⟩ := print_scan l hb ho
      rw [h1]
      simp only [Option.bind_some]
      refine pos hb2 ?_
      rw [h2, answers13]
      simp only [Option.bind_some]
      have hv : ∀ x ∈ l, validRune x.f0 = true := fun x hx => by
        have := List.all_eq_true.1 ho x hx
        unfold okT at this
        rw [Bool.and_eq_true] at this
        exact this.1
      refine pos trivial (Ev.bind (refPrint_ev l hv (by omega)) (pos rfl (pos trivial (Ev.bind (sameT_ev l k (by omega)) ?_))))
      rw [decide_eq_true h3.symm]
      exact Ev.now _
    · have ho : ¬ l.all okT = true := by rw [← hbb]; exact hb2
      rw [print_bad l hb ho, answers13]
      simp only [Option.bind_some]
      refine neg hb2 (pos trivial ?_)
      exact mk (fun _ => by simp [toList_L])
  | d + 1, i, b, hd, hbb => by
    refine succ ?_
    simp only [figureheadlaw13_TokenPrints.l0]
    have hi : i < l.length := by omega
    have hs := may_step l i hi
    rw [← hbb] at hs
    rw [rdK_at l i hi, w64 (by omega) (by omega), refScalar_val]
    simp only [Option.bind_some]
    have ih : ∀ c, c = (l.take (i + 1)).all okT → Ev (fun k => figureheadlaw13_TokenPrints.l0 k l c ((i : Int) + 1)) true := fun c hc => by
      have := prints_l0 l hb d (i + 1) c (by omega) hc
      simpa using this
    refine pos (by omega) ?_
    by_cases hb2 : b = true
    · refine pos hb2 (pos (by omega) ?_)
      rw [hb2, Bool.true_and] at hs
      by_cases hv : Lib.validRune l[i].f0 = true
      · refine pos hv ?_
        by_cases hq : l[i].f1 = true
        · exact pos hq (ih true (by rw [hs]; unfold okT; rw [hv, hq]; rfl))
        · have hq0 : l[i].f1 = false := by simpa using hq
          exact neg hq (ih _ (by rw [hs]; unfold okT; rw [hv, hq0]; rfl))
      · have hv0 : Lib.validRune l[i].f0 = false := by simpa using hv
        exact neg hv (ih false (by rw [hs]; unfold okT; rw [hv0]; rfl))
    · have hb0 : b = false := by simpa using hb2
      exact neg hb2 (ih false (by rw [hs, hb0]; rfl))
theorem TokenPrints : figureheadlaw13_TokenPrints.Pure := by
  intro l hl hw
  refine Ev.rounds (r := true) ?_
  simp only [figureheadlaw13_TokenPrints.f]
  by_cases h : (l.length : Int) > 400
  · rw [answers13]; exact pos h (Ev.now _)
  refine neg h ?_
  have := prints_l0 l (by omega) l.length 0 true (by omega) rfl
  simpa using this
end Go.Proofs.YteiifaijhbcjcaaDoor.Pure
