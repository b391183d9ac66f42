/- The law GroupSplits, the plain side: Split and the reference's Groups answer alike, part by part. -/
import Derived.Test.YtpkhcmppjdhpaaaP20
namespace Go.Proofs.Ytpkhcmppjdhpaaa.Pure
open Go.RowKit Go.Proofs.Ytpkhcmppjdhpaaa.Print Go.Proofs.Ytpkhcmppjdhpaaa.U Go.Proofs.YtpkhcmppjdhpaaaW.PrintWords
set_option linter.unusedVariables false
set_option linter.unusedSimpArgs false

theorem splits_l0 (xs : List ByteArray) (hx : xs.length ≤ 1000000) : ∀ (d : Nat) (i : Int), 0 ≤ i → i + d = xs.length → Ev (fun k => figureheadlaw20_GroupSplits.l0 k xs xs i) true
  | 0, i, h0, hd => by
    refine succ ?_
    simp only [figureheadlaw20_GroupSplits.l0]
    exact neg (by omega) (Ev.bind answers20 (Ev.now _))
  | d + 1, i, h0, hd => by
    refine succ ?_
    simp only [figureheadlaw20_GroupSplits.l0]
    refine pos (by omega) (pos h0 (pos (by omega) (pos (by simp) ?_)))
    rw [w64 (by omega) (by omega)]
    exact splits_l0 xs hx d (i + 1) (by omega) (by omega)
theorem GroupSplits : figureheadlaw20_GroupSplits.Pure := by
  intro s p q hs hp hq
  refine Ev.rounds (r := true) ?_
  simp only [figureheadlaw20_GroupSplits.f]
  by_cases h : (s.size : Int) > 500
  · exact pos h (Ev.bind answers20 (Ev.now _))
  · refine neg h (Ev.bind (split_ev s p q (by omega)) (Ev.bind (groups_ev s p q (by omega)) (pos (by simp) ?_)))
    have hl := splitR_len s p q
    exact splits_l0 _ (by omega) (splitR s p q).length 0 (by omega) (by omega)
end Go.Proofs.Ytpkhcmppjdhpaaa.Pure
