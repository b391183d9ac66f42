/- Package number's Parse answers as the plain law says. -/
import Derived.Test.YtgobcejjefgkcaaDoorNl
namespace Go.Proofs.YtgobcejjefgkcaaDoor.Print
open Go.RowKit Go.Proofs.YtgobcejjefgkcaaDoorW.PrintWords Go.Proofs.YtgobcejjefgkcaaDoorW.PrintLast Go.Proofs.YtgobcejjefgkcaaDoorW.PrintMore
set_option linter.unusedVariables false
set_option linter.unusedSimpArgs false

theorem parse_calls (s : ByteArray) (w : World) (hT : Tabs w) (hs : s.size ≤ 1000000000) :
    Calls Tryd.prog 10 #[.string s] w fun e w' => e = .returned (.tuple #[.agg (patN (N.numN (N.L s)).1), .int .i64 (N.numN (N.L s)).2]) ∧ Below w.heap.size w w' := by
  obtain ⟨q1, q2⟩ := part_of s
  have hcut := fun W hT => cut_calls s 69 W hT hs
  obtain ⟨s0, hs0⟩ : ∃ s0, s0 = mkB (N.bodyN (N.L s)) := ⟨_, rfl⟩
  obtain ⟨ex, hex⟩ : ∃ ex, ex = mkB (N.expN (N.L s)) := ⟨_, rfl⟩
  obtain ⟨sc, hsc⟩ : ∃ sc, sc = N.sciN (N.L s) := ⟨_, rfl⟩
  rw [← hs0] at q1
  rw [← hex] at q2
  change ∀ W, Tabs W → Calls _ _ _ W fun e w' => e = .returned (.tuple #[.string (mkB (N.bodyN (N.L s))), .string (mkB (N.expN (N.L s))), .bool (N.sciN (N.L s))]) ∧ Below W.heap.size W w' at hcut
  rw [← hs0, ← hex, ← hsc] at hcut
  have HC := Lib.hid hcut
  have hr1 : r1 s = { rd0 with ex := ex, sc := sc } := by rw [hex, hsc]; rfl
  obtain ⟨E1, hE1⟩ : ∃ E1, E1 = N.expE (N.sciN (N.L s)) (N.expN (N.L s)) := ⟨_, rfl⟩
  obtain ⟨E2, hE2⟩ : ∃ E2, E2 = N.partsE (N.bodyN (N.L s)) := ⟨_, rfl⟩
  obtain ⟨E3, hE3⟩ : ∃ E3, E3 = N.groupsE (N.wholeN (N.L s)) (N.fracN (N.L s)) := ⟨_, rfl⟩
  obtain ⟨E4, hE4⟩ : ∃ E4, E4 = N.countsE (N.pointN (N.L s)) (N.sciN (N.L s)) (N.plN (N.L s)) (N.fracN (N.L s)) := ⟨_, rfl⟩
  obtain ⟨E5, hE5⟩ : ∃ E5, E5 = N.mixedE (N.sayN (N.L s)) (N.plN (N.L s)) := ⟨_, rfl⟩
  obtain ⟨f1, f2, f3, f4, f5, f6, f7, f8⟩ := r_facts s
  have HM1 : Hid (∀ (b : Nat) (W : World), IsRd W b (r1 s) → Calls Tryd.prog 18 #[.pointer (some ⟨b, 0, none⟩)] W fun e w' => e = .returned (.int .i64 E1) ∧ Mid b W w' ∧ Then E1 (IsRd w' b (r2 s))) := Lib.hid fun b W h => by
    have := exponent_calls (r1 s) b W h (by rw [hr1]; show ex.size ≤ _; omega)
    rw [show N.expE (r1 s).sc (N.L (r1 s).ex) = E1 by rw [hE1]; unfold r1; simp only [L_mkB]] at this
    exact this
  have HM2 : Hid (∀ (b : Nat) (W : World), IsRd W b (r2 s) → Tabs W → Calls Tryd.prog 19 #[.pointer (some ⟨b, 0, none⟩), .string s0] W fun e w' => e = .returned (.int .i64 E2) ∧ Mid b W w' ∧ Then E2 (IsRd w' b (r3 s))) := Lib.hid fun b W h ht => by
    have := parts_calls (r2 s) b s0 W h ht (by omega)
    rw [show N.partsE (N.L s0) = E2 by rw [hE2, hs0, L_mkB], hs0] at this
    rw [hs0]
    exact this
  have HM3 : Hid (∀ (b : Nat) (W : World), IsRd W b (r3 s) → Tabs W → Calls Tryd.prog 20 #[.pointer (some ⟨b, 0, none⟩)] W fun e w' => e = .returned (.int .i64 E3) ∧ Mid b W w' ∧ Then E3 (IsRd w' b (r4 s))) := Lib.hid fun b W h ht => by
    have := groups_calls (r3 s) b W h ht (by have := (r3_size s).1; omega)
    rw [f1, f2, ← hE3] at this
    exact this
  have HM4 : Hid (E2 = 0 → ∀ (b : Nat) (W : World), IsRd W b (r4 s) → Calls Tryd.prog 21 #[.pointer (some ⟨b, 0, none⟩)] W fun e w' => e = .returned (.int .i64 E4) ∧ Mid b W w' ∧ Then E4 (IsRd w' b (r5 s))) := Lib.hid fun he b W h => by
    have hz := r4_size s
    have := counts_calls (r4 s) b W h (by omega) (by omega) (r4_low s (by rw [← hE2]; exact he))
    rw [f3, f4, f5, f6, ← hE4] at this
    exact this
  have HM5 : Hid (∀ (b : Nat) (W : World), IsRd W b (r5 s) → Calls Tryd.prog 22 #[.pointer (some ⟨b, 0, none⟩)] W fun e w' => e = .returned (.int .i64 E5) ∧ Mid b W w' ∧ IsRd w' b (r5 s)) := Lib.hid fun b W h => by
    have := mixed_calls (r5 s) b W h (r5_pos s)
    rw [r5_mixed, ← hE5] at this
    exact this
  have HR : Hid (r1 s = { rd0 with ex := ex, sc := sc }) := Lib.hid hr1
  have herr : N.errN (N.L s) = (if E1 ≠ 0 then E1 else if E2 ≠ 0 then E2 else if E3 ≠ 0 then E3 else if E4 ≠ 0 then E4 else E5) := by rw [hE1, hE2, hE3, hE4, hE5]; rfl
  have h2 : errAt E2 E3 E4 E5 3 = (if E2 ≠ 0 then E2 else if E3 ≠ 0 then E3 else if E4 ≠ 0 then E4 else E5) := by
    unfold errAt
    by_cases k2 : E2 = 0
    · by_cases k3 : E3 = 0
      · by_cases k4 : E4 = 0 <;> simp [k2, k3, k4]
      · simp [k2, k3]
    · simp [k2]
  unfold N.numN
  by_cases h1 : E1 = 0
  · have hF : N.errN (N.L s) = errAt E2 E3 E4 E5 3 := by rw [herr, h2, if_neg (by simp [h1])]
    by_cases h0 : N.errN (N.L s) = 0
    · rw [if_pos h0]
      have := parse_ok s ex s0 sc E1 E2 E3 E4 E5 w hT HC HR HM1 HM2 HM3 HM4 HM5 (hF.symm.trans h0) h1
      rw [r5_pat] at this
      exact this
    · rw [if_neg h0]
      exact parse_fails s ex s0 sc E1 E2 E3 E4 E5 w hT HC HR HM1 HM2 HM3 HM4 HM5 (N.errN (N.L s)) h0 hF h1
  · have hF : N.errN (N.L s) = errAt E1 E3 E4 E5 3 := by rw [herr, if_pos h1]; unfold errAt; simp [h1]
    have h0 : N.errN (N.L s) ≠ 0 := by rw [herr, if_pos h1]; exact h1
    rw [if_neg h0]
    exact parse_exp_fails s ex s0 sc E1 E2 E3 E4 E5 w hT HC HR HM1 HM2 HM3 HM4 HM5 (N.errN (N.L s)) h0 hF h1
end Go.Proofs.YtgobcejjefgkcaaDoor.Print
