/- The law UtfTexts, the plain side: the bytes of any code points, or that one is none; they come again out of them. -/
import Derived.Test.YtenifjkiiaahiaaDoorPA11
namespace Go.Proofs.YtenifjkiiaahiaaDoor.Pure
open Go.RowKit Go.Lib Go.Proofs.YtenifjkiiaahiaaDoor.Print Go.Proofs.YtenifjkiiaahiaaDoor.U Go.Proofs.YtenifjkiiaahiaaDoor.Utf Go.Proofs.YtenifjkiiaahiaaDoorW.PrintWords
set_option linter.unusedVariables false
set_option linter.unusedSimpArgs false

theorem rd_at_int (l : List Int) (i : Nat) (hi : i < l.length) : rd l (i : Int) = l[i] := by
  rw [rd_eq, List.getD_eq_getElem?_getD, Int.toNat_natCast, List.getElem?_eq_getElem hi]
  rfl
theorem texts_l0 (l : List Int) (hl : l.length ≤ 1000) : ∀ (d i : Nat), i + d = l.length → Ev (fun k => figureheadlaw11_UtfTexts.l0 k l ((l.take i).all Lib.validRune) (i : Int)) true
  | 0, i, hd => by
    refine succ ?_
    simp only [figureheadlaw11_UtfTexts.l0]
    rw [List.take_of_length_le (by omega)]
    refine neg (by omega) ?_
    rw [text_val l (by omega)]
    simp only [Option.bind_some]
    by_cases ha : l.all Lib.validRune = true
    · simp only [ha, if_true]
      have hall := (all_iff l).1 ha
      have hlen := encAll_len l
      have hr := runes_val ⟨(encAll l).toArray⟩ (by rw [size_mk]; omega) l [] ⟨hall, by rw [L_mk]; simp, .inl rfl⟩
      rw [if_pos rfl] at hr
      rw [hr]
      simp only [Option.bind_some]
      refine Ev.bind answers11 (pos rfl ?_)
      refine Ev.bind (refText_ev l hall (by omega)) ?_
      refine pos rfl (pos trivial ?_)
      refine Ev.bind (same_true l (by omega)) ?_
      exact mk (fun _ => rfl)
    · have ha2 : l.all Lib.validRune = false := by simpa using ha
      rw [ha2]
      refine neg (by simp) (Ev.bind answers11 (pos rfl (neg (by simp) ?_)))
      simp [toList_L]
      exact Ev.now _
  | d + 1, i, hd => by
    refine succ ?_
    simp only [figureheadlaw11_UtfTexts.l0]
    have hi : i < l.length := by omega
    have ih := texts_l0 l hl d (i + 1) (by omega)
    have et : (l.take (i + 1)).all Lib.validRune = ((l.take i).all Lib.validRune && Lib.validRune l[i]) := by rw [List.take_succ_eq_append_getElem hi, List.all_append]; simp
    rw [et] at ih
    rw [rd_at_int l i hi, w64 (by omega) (by omega), refScalar_val]
    simp only [Option.bind_some]
    refine pos (by omega) (pos (by omega) (Ev.bind (scalar_ev _) (neg (by simp) ?_)))
    by_cases ha : (l.take i).all Lib.validRune = true
    · rw [ha, Bool.true_and] at ih
      rw [ha]
      exact pos rfl (by simpa using ih)
    · have ha2 : (l.take i).all Lib.validRune = false := by simpa using ha
      rw [ha2, Bool.false_and] at ih
      rw [ha2]
      exact neg (by simp) (by simpa using ih)
theorem UtfTexts : figureheadlaw11_UtfTexts.Pure := by
  intro l hl hw
  refine Ev.rounds (r := true) ?_
  simp only [figureheadlaw11_UtfTexts.f]
  by_cases h : (l.length : Int) > 1000
  · exact pos h (Ev.bind answers11 (Ev.now _))
  · refine neg h ?_
    have := texts_l0 l (by omega) l.length 0 (by omega)
    simpa using this
end Go.Proofs.YtenifjkiiaahiaaDoor.Pure
