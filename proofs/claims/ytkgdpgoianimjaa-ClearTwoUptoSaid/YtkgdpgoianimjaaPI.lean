/- Scalars and digits of a system, the plain side: what Scalar, Good and Is answer. -/
import Derived.Test.YtkgdpgoianimjaaPrint6
import Derived.Test.YtkgdpgoianimjaaU
namespace Go.Proofs.Ytkgdpgoianimjaa.Pure
open Go.RowKit Go.Lib Go.Proofs.Ytkgdpgoianimjaa.Print Go.Proofs.Ytkgdpgoianimjaa.U Go.Proofs.Ytkgdpgoianimjaa.Utf Go.Proofs.YtkgdpgoianimjaaW.PrintWords
set_option linter.unusedVariables false
set_option linter.unusedSimpArgs false

/-! ### scalars -/
theorem valid_j0 (r : Int) : Ev (fun k => utf8_ValidRune.j0 k r false) (decide (57343 < r ∧ r ≤ 1114111)) := by
  refine succ ?_
  simp only [utf8_ValidRune.j0]
  refine neg (by simp) ?_
  by_cases h1 : 57343 < r
  · refine pos h1 ?_
    by_cases h2 : r ≤ 1114111
    · rw [decide_eq_true ⟨h1, h2⟩]; exact pos h2 (Ev.now _)
    · rw [decide_eq_false (fun h => h2 h.2)]; exact neg h2 (Ev.now _)
  · rw [decide_eq_false (fun h => h1 h.1)]; exact neg h1 (Ev.now _)
theorem valid_ev (r : Int) : Ev (fun k => utf8_ValidRune.f k r) (Lib.validRune r) := by
  simp only [utf8_ValidRune.f]
  by_cases h0 : 0 ≤ r
  · refine pos h0 ?_
    by_cases h1 : r < 55296
    · rw [decide_eq_true h1, show Lib.validRune r = true from (ok_iff r).2 (.inl ⟨h0, h1⟩)]
      refine succ ?_
      simp only [utf8_ValidRune.j0]
      exact pos (by simp) (Ev.now _)
    · rw [decide_eq_false h1, show Lib.validRune r = decide (57343 < r ∧ r ≤ 1114111) from by unfold Lib.validRune; apply decide_eq_decide.2; omega]
      exact valid_j0 r
  · refine neg h0 ?_
    rw [show Lib.validRune r = decide (57343 < r ∧ r ≤ 1114111) from by unfold Lib.validRune; apply decide_eq_decide.2; omega]
    exact valid_j0 r
theorem scalar_ev (r : Int) : Ev (fun k => utf_Scalar.f k r) (Lib.validRune r) := by
  simp only [utf_Scalar.f]
  exact Ev.bind (valid_ev r) (Ev.now _)

/-- May ten digits begin there? -/
def goodZ (z : Int) : Bool := decide (0 ≤ z ∧ z ≤ 1114102 ∧ (z + 9 < 55296 ∨ 57343 < z))
/-- Is it one of the ten? -/
def isZ (z r : Int) : Bool := goodZ z && decide (z ≤ r ∧ r < z + 10)
theorem w32 {x : Int} (h0 : -2147483648 ≤ x) (h1 : x ≤ 2147483647) : wrap32 x = x := by unfold wrap32; omega
theorem good_l0 (z : Int) (h0 : 0 ≤ z) (h1 : z ≤ 1114102) : ∀ (d n : Nat) (b : Bool), n + d = 10 → (b = true ↔ ∀ m : Nat, n ≤ m → m < 10 → Lib.validRune (z + m) = true) → Ev (fun k => digit_Good.l0 k z (n : Int)) b
  | 0, n, b, hd, hb => by
    refine succ ?_
    simp only [digit_Good.l0]
    rw [hb.2 (fun m h2 h3 => by omega)]
    exact neg (by omega) (Ev.now _)
  | d + 1, n, b, hd, hb => by
    refine succ ?_
    simp only [digit_Good.l0]
    rw [w32 (x := z + (n : Int)) (by omega) (by omega), w32 (x := (n : Int) + 1) (by omega) (by omega)]
    refine pos (by omega) (Ev.bind (scalar_ev _) ?_)
    by_cases hv : Lib.validRune (z + (n : Int)) = true
    · refine pos hv ?_
      have := good_l0 z h0 h1 d (n + 1) b (by omega) ⟨fun h m a c => hb.1 h m (by omega) c, fun h => hb.2 (fun m a c => by
        by_cases e : n = m
        · rw [← e]; exact hv
        · exact h m (by omega) c)⟩
      simpa using this
    · refine neg hv ?_
      have : b = false := by
        cases b with
        | false => rfl
        | true => exact absurd (hb.1 rfl n (Nat.le_refl _) (by omega)) hv
      rw [this]
      exact Ev.now _
theorem good_ev (z : Int) : Ev (fun k => digit_Good.f k z) (goodZ z) := by
  simp only [digit_Good.f]
  have yes : ∀ b : Bool, b = true → Ev (fun k => digit_Good.j0 k z b) false := fun b hb => by
    subst hb
    refine succ ?_
    simp only [digit_Good.j0]
    exact pos (by simp) (Ev.now _)
  by_cases h0 : z < 0
  · rw [show goodZ z = false from by unfold goodZ; exact decide_eq_false (by omega)]
    exact pos h0 (yes true rfl)
  refine neg h0 ?_
  by_cases h1 : z > 1114102
  · rw [show goodZ z = false from by unfold goodZ; exact decide_eq_false (by omega)]
    exact yes _ (decide_eq_true h1)
  rw [decide_eq_false h1]
  refine succ ?_
  simp only [digit_Good.j0]
  refine neg (by simp) ?_
  have := good_l0 z (by omega) (by omega) 10 0 (goodZ z) (by omega) (by
    unfold goodZ
    rw [decide_eq_true_iff]
    constructor
    · intro h m _ hm
      rw [ok_iff]; omega
    · intro h
      have a := (ok_iff _).1 (h 0 (by omega) (by omega))
      have b := (ok_iff _).1 (h 9 (by omega) (by omega))
      by_cases c : 55296 ≤ z + 9 ∧ z ≤ 57343
      · by_cases e : z ≤ 55296
        · have d := (ok_iff _).1 (h (55296 - z).toNat (by omega) (by omega))
          omega
        · omega
      · omega)
  simpa using this
theorem is_ev (z r : Int) : Ev (fun k => digit_Is.f k z r) (isZ z r) := by
  simp only [digit_Is.f]
  refine Ev.bind (good_ev z) ?_
  by_cases hg : goodZ z = true
  · refine pos hg ?_
    have hz : 0 ≤ z ∧ z ≤ 1114102 := by unfold goodZ at hg; have := of_decide_eq_true hg; omega
    rw [w32 (by omega) (by omega)]
    unfold isZ
    rw [hg, Bool.true_and]
    by_cases h : r ≥ z
    · rw [show decide (z ≤ r ∧ r < z + 10) = decide (r < z + 10) from decide_eq_decide.2 (by omega)]
      exact pos h (Ev.now _)
    · rw [show decide (z ≤ r ∧ r < z + 10) = false from decide_eq_false (by omega)]
      exact neg h (Ev.now _)
  · refine neg hg ?_
    have : goodZ z = false := by simpa using hg
    unfold isZ
    rw [this, Bool.false_and]
    exact Ev.now _
theorem is_val (z r : Int) : ∃ k, digit_Is.f k z r = some (isZ z r) := Ev.rounds (is_ev z r)
end Go.Proofs.Ytkgdpgoianimjaa.Pure
