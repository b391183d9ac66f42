/- Where ten digits may begin, by the reference: its Zero, the plain side. -/
import Derived.Test.YtkgdpgoianimjaaPrint5
import Derived.Test.YtkgdpgoianimjaaPU
namespace Go.Proofs.Ytkgdpgoianimjaa.Pure
open Go.RowKit Go.Lib Go.Proofs.Ytkgdpgoianimjaa.Print Go.Proofs.Ytkgdpgoianimjaa.U Go.Proofs.Ytkgdpgoianimjaa.Utf Go.Proofs.YtkgdpgoianimjaaW.PrintWords
set_option linter.unusedVariables false
set_option linter.unusedSimpArgs false

theorem good_iff (z : Int) : goodZ z = true ↔ 0 ≤ z ∧ z ≤ 1114102 ∧ (z + 9 < 55296 ∨ 57343 < z) := by unfold goodZ; rw [decide_eq_true_iff]
theorem zero_l0 (z : Int) (h0 : 0 ≤ z) (h1 : z ≤ 2147483647) : ∀ (d n : Nat) (b : Bool), n + d = 10 → (b = true ↔ (n < 10 → z ≤ 1114102 ∧ ∀ m : Nat, n ≤ m → m < 10 → Lib.validRune (z + m) = true)) → Ev (fun k => figureheadref11_Zero.l0 k z (n : Int)) b
  | 0, n, b, hd, hb => by
    refine succ ?_
    simp only [figureheadref11_Zero.l0]
    rw [hb.2 (fun h => by omega)]
    exact neg (by omega) (Ev.now _)
  | d + 1, n, b, hd, hb => by
    refine succ ?_
    simp only [figureheadref11_Zero.l0]
    refine pos (by omega) ?_
    have bf : (¬ b = true) → b = false := fun h => by simpa using h
    by_cases h2 : z > 1114102
    · rw [bf (fun h => by have := hb.1 h (by omega); omega)]
      exact pos h2 (Ev.now _)
    refine neg h2 ?_
    rw [w32' (x := z + (n : Int)) (by omega) (by omega), w32' (x := (n : Int) + 1) (by omega) (by omega), refScalar_val]
    simp only [Option.bind_some]
    by_cases hv : Lib.validRune (z + (n : Int)) = true
    · refine pos hv ?_
      have := zero_l0 z h0 h1 d (n + 1) b (by omega) ⟨fun h _ => ⟨by omega, fun m a c => (hb.1 h (by omega)).2 m (by omega) c⟩, fun h => hb.2 (fun _ => ⟨by omega, fun m a c => by
        by_cases e : n = m
        · rw [← e]; exact hv
        · exact (h (by omega)).2 m (by omega) c⟩)⟩
      simpa using this
    · refine neg hv ?_
      rw [bf (fun h => hv ((hb.1 h (by omega)).2 n (Nat.le_refl _) (by omega)))]
      exact Ev.now _
theorem zero_ev (z : Int) (h0 : 0 ≤ z) (h1 : z ≤ 2147483647) : Ev (fun k => figureheadref11_Zero.f k z) (goodZ z) := by
  simp only [figureheadref11_Zero.f]
  have := zero_l0 z h0 h1 10 0 (goodZ z) (by omega) (by
    rw [good_iff]
    constructor
    · intro h _
      exact ⟨h.2.1, fun m _ hm => by rw [ok_iff]; omega⟩
    · intro h
      have hh := h (by omega)
      have a := (ok_iff _).1 (hh.2 0 (by omega) (by omega))
      have b := (ok_iff _).1 (hh.2 9 (by omega) (by omega))
      by_cases c : 55296 ≤ z + 9 ∧ z ≤ 57343
      · by_cases e : z ≤ 55296
        · have d := (ok_iff _).1 (hh.2 (55296 - z).toNat (by omega) (by omega))
          omega
        · omega
      · omega)
  simpa using this
end Go.Proofs.Ytkgdpgoianimjaa.Pure
