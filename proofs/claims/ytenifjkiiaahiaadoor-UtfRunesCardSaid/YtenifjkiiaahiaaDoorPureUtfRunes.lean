/- The law UtfRunes, the plain side: the code points of any bytes, or where none begins. -/
import Derived.Test.YtenifjkiiaahiaaDoorPA11
namespace Go.Proofs.YtenifjkiiaahiaaDoor.Pure
open Go.RowKit Go.Lib Go.Proofs.YtenifjkiiaahiaaDoor.Print Go.Proofs.YtenifjkiiaahiaaDoor.U Go.Proofs.YtenifjkiiaahiaaDoor.Utf Go.Proofs.YtenifjkiiaahiaaDoorW.PrintWords
set_option linter.unusedVariables false
set_option linter.unusedSimpArgs false

theorem encAll_ge (l : List Int) : l.length ≤ (encAll l).length := by
  induction l with
  | nil => simp [encAll]
  | cons x l ih =>
    rw [encAll_cons, List.length_append, List.length_cons]
    have := (enc_len x).1
    omega
theorem form_len {s : ByteArray} {rs : List Int} {rest : List UInt8} (h : TextForm (L s) rs rest) : rs.length ≤ s.size ∧ (encAll rs).length ≤ s.size := by
  have := congrArg List.length h.2.1
  rw [L_len, List.length_append] at this
  have := encAll_ge rs
  omega
theorem UtfRunes : figureheadlaw11_UtfRunes.Pure := by
  intro s hs
  refine Ev.rounds (r := true) ?_
  simp only [figureheadlaw11_UtfRunes.f]
  by_cases h : (s.size : Int) > 2000
  · exact pos h (Ev.bind answers11 (Ev.now _))
  refine neg h ?_
  obtain ⟨rs, rest, hf⟩ := form (L s)
  have hlen := form_len hf
  refine Ev.bind (refRunes_ev s (by omega) rs rest hf) ?_
  rw [runes_val s (by omega) rs rest hf, bad_val s (by omega) rs rest hf, count_val s (by omega) rs rest hf]
  simp only [Option.bind_some]
  refine Ev.bind answers11 (pos rfl ?_)
  unfold refRunesR
  by_cases hr : rest = []
  · simp only [if_pos hr]
    refine pos (by simp) (pos (by simp) (Ev.bind (same_true rs (by omega)) (pos (by simp) ?_)))
    exact mk (fun _ => by simp)
  · simp only [if_neg hr]
    refine pos (by simp) (pos ?_ (Ev.bind (same_true [] (by simp)) (pos (by simp) ?_)))
    · have : ¬ (((encAll rs).length : Int) < 0) := by omega
      simp [this]
    · exact mk (fun _ => by simp)
end Go.Proofs.YtenifjkiiaahiaaDoor.Pure
