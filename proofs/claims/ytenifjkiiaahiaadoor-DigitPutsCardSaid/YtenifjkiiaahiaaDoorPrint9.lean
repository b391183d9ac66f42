/- Functions of the program as Lean functions, and that the program's calls answer so: printed by this session's own program (wip/tools/pext.py) out of the translation. Conditions: each theorem's own. Not trusted: Lean checks it. -/
import Derived.Test.YtenifjkiiaahiaaDoorPrint0
import Derived.Test.YtenifjkiiaahiaaDoorPrint1
import Derived.Test.YtenifjkiiaahiaaDoorPrint4
import Derived.Test.YtenifjkiiaahiaaDoorPrint6
import Derived.Test.YtenifjkiiaahiaaDoorFD
namespace Go.Proofs.YtenifjkiiaahiaaDoor.Print
open Go.RowKit Go.Proofs.YtenifjkiiaahiaaDoorW.PrintWords Go.Proofs.YtenifjkiiaahiaaDoorW.PrintLast Go.Proofs.YtenifjkiiaahiaaDoorW.PrintMore
attribute [local go_sem] max2_int min2_int max_two min_two max_three min_three max_four min_four   -- for this text's walks alone
set_option linter.unusedVariables false
set_option linter.unusedSimpArgs false

/-! ### figureheadlaw12_DigitMixed: function 11 -/
def figureheadlaw12_DigitMixed.j0 : Nat → Int → Int → ByteArray → ByteArray → Bool → Option (Bool)
  | 0, _, _, _, _, _ => none
  | k + 1, x0, x1, x2, x3, x59 => if x59 = true then ((figureheadlaw12_answers.f k).bind fun t255 => (some t255)) else ((figureheadref11_Put.f k x0 x2).bind fun t256 => ((figureheadref11_Put.f k x1 x3).bind fun t257 => (if t256.size + t257.size ≤ 9223372036854775807 then ((digit_Get.f x0 (t256 ++ t257)).bind fun bt258 => ((digit_Get.f x1 (t256 ++ t257)).bind fun bt260 => ((figureheadlaw12_answers.f k).bind fun t262 => (if t262 = true then (if bt258.2 = true then (some false) else (if bt260.2 = true then (some false) else ((digit_Run.f x0 (t256 ++ t257)).bind fun t263 => ((figureheadref11_Put.f k x0 x2).bind fun t264 => (some (t263 == (t264.size : Int))))))) else (some false))))) else (none))))
def figureheadlaw12_DigitMixed.f (k : Nat) (a0 : Int) (a1 : Int) (a2 : ByteArray) (a3 : ByteArray) : Option (Bool) := if a0 < 0 then (figureheadlaw12_DigitMixed.j0 k a0 a1 a2 a3 true) else ((figureheadref11_Zero.f k a0).bind fun t249 => (if t249 = true then (if a1 < 0 then (figureheadlaw12_DigitMixed.j0 k a0 a1 a2 a3 true) else ((figureheadref11_Zero.f k a1).bind fun t250 => (if t250 = true then (if (wrap32 (a1 - a0)) < 10 then (if (wrap32 (a0 - a1)) < 10 then (figureheadlaw12_DigitMixed.j0 k a0 a1 a2 a3 true) else ((figureheadref05_Digits.f k a2).bind fun t251 => (if t251 = true then ((figureheadref05_Digits.f k a3).bind fun t252 => (if t252 = true then (figureheadlaw12_DigitMixed.j0 k a0 a1 a2 a3 (decide ((wrap64 ((a2.size : Int) + (a3.size : Int))) > 100))) else (figureheadlaw12_DigitMixed.j0 k a0 a1 a2 a3 true))) else (figureheadlaw12_DigitMixed.j0 k a0 a1 a2 a3 true)))) else ((figureheadref05_Digits.f k a2).bind fun t253 => (if t253 = true then ((figureheadref05_Digits.f k a3).bind fun t254 => (if t254 = true then (figureheadlaw12_DigitMixed.j0 k a0 a1 a2 a3 (decide ((wrap64 ((a2.size : Int) + (a3.size : Int))) > 100))) else (figureheadlaw12_DigitMixed.j0 k a0 a1 a2 a3 true))) else (figureheadlaw12_DigitMixed.j0 k a0 a1 a2 a3 true)))) else (figureheadlaw12_DigitMixed.j0 k a0 a1 a2 a3 true)))) else (figureheadlaw12_DigitMixed.j0 k a0 a1 a2 a3 true)))
theorem figureheadlaw12_DigitMixed.mono_l : ∀ k, (∀ y0 y1 y2 y3 y4, LeO (figureheadlaw12_DigitMixed.j0 k y0 y1 y2 y3 y4) (figureheadlaw12_DigitMixed.j0 (k + 1) y0 y1 y2 y3 y4))
  | 0 => fun _ _ _ _ _ r h => by simp [figureheadlaw12_DigitMixed.j0] at h
  | k + 1 => by
    have ih0 := figureheadlaw12_DigitMixed.mono_l k
    · intro y0 y1 y2 y3 y4
      unfold figureheadlaw12_DigitMixed.j0
      repeat' first
      | (with_reducible exact ih0 _ _ _ _ _)
      | (with_reducible exact figureheadlaw12_answers.mono _)
      | (with_reducible exact figureheadref05_Digits.mono _ _)
      | (with_reducible exact figureheadref11_Put.mono _ _ _)
      | (with_reducible exact figureheadref11_Zero.mono _ _)
      | (with_reducible exact LeO.refl _)
      | (with_reducible exact LeO.none _)
      | (with_reducible refine LeO.ite ?_ ?_)
      | (with_reducible refine LeO.bind ?_ (fun _ => ?_))
      | exact ih0 _ _ _ _ _
      | exact figureheadlaw12_answers.mono _
      | exact figureheadref05_Digits.mono _ _
      | exact figureheadref11_Put.mono _ _ _
      | exact figureheadref11_Zero.mono _ _
      | exact LeO.none _
      | refine LeO.ite ?_ ?_
      | refine LeO.bind ?_ (fun _ => ?_)
theorem figureheadlaw12_DigitMixed.mono : ∀ a0 a1 a2 a3 k, LeO (figureheadlaw12_DigitMixed.f k a0 a1 a2 a3) (figureheadlaw12_DigitMixed.f (k + 1) a0 a1 a2 a3) := by
  intro a0 a1 a2 a3 k
  have ih0 := figureheadlaw12_DigitMixed.mono_l k
  unfold figureheadlaw12_DigitMixed.f
  repeat' first
      | (with_reducible exact ih0 _ _ _ _ _)
      | (with_reducible exact figureheadlaw12_answers.mono _)
      | (with_reducible exact figureheadref05_Digits.mono _ _)
      | (with_reducible exact figureheadref11_Put.mono _ _ _)
      | (with_reducible exact figureheadref11_Zero.mono _ _)
      | (with_reducible exact LeO.refl _)
      | (with_reducible exact LeO.none _)
      | (with_reducible refine LeO.ite ?_ ?_)
      | (with_reducible refine LeO.bind ?_ (fun _ => ?_))
      | exact ih0 _ _ _ _ _
      | exact figureheadlaw12_answers.mono _
      | exact figureheadref05_Digits.mono _ _
      | exact figureheadref11_Put.mono _ _ _
      | exact figureheadref11_Zero.mono _ _
      | exact LeO.none _
      | refine LeO.ite ?_ ?_
      | refine LeO.bind ?_ (fun _ => ?_)
set_option maxHeartbeats 8000000 in
set_option maxRecDepth 100000 in
theorem figureheadlaw12_DigitMixed.calls (k : Nat) (a0 : Int) (a1 : Int) (a2 : ByteArray) (a3 : ByteArray) (r : Bool) (w : World) (hT : Tabs w) (h : figureheadlaw12_DigitMixed.f k a0 a1 a2 a3 = some r) :
    Calls Tryd.prog 11 #[.int .i32 a0, .int .i32 a1, .string a2, .string a3] w fun e w' => e = .returned (.bool r) ∧ Below w.heap.size w w' := by
  have HB := Aside0.mk (Below.refl w.heap.size w)
  have HT := Aside0.mk hT
  clear hT
  have H : (if a0 < 0 then (figureheadlaw12_DigitMixed.j0 k a0 a1 a2 a3 true) else ((figureheadref11_Zero.f k a0).bind fun t249 => (if t249 = true then (if a1 < 0 then (figureheadlaw12_DigitMixed.j0 k a0 a1 a2 a3 true) else ((figureheadref11_Zero.f k a1).bind fun t250 => (if t250 = true then (if (wrap32 (a1 - a0)) < 10 then (if (wrap32 (a0 - a1)) < 10 then (figureheadlaw12_DigitMixed.j0 k a0 a1 a2 a3 true) else ((figureheadref05_Digits.f k a2).bind fun t251 => (if t251 = true then ((figureheadref05_Digits.f k a3).bind fun t252 => (if t252 = true then (figureheadlaw12_DigitMixed.j0 k a0 a1 a2 a3 (decide ((wrap64 ((a2.size : Int) + (a3.size : Int))) > 100))) else (figureheadlaw12_DigitMixed.j0 k a0 a1 a2 a3 true))) else (figureheadlaw12_DigitMixed.j0 k a0 a1 a2 a3 true)))) else ((figureheadref05_Digits.f k a2).bind fun t253 => (if t253 = true then ((figureheadref05_Digits.f k a3).bind fun t254 => (if t254 = true then (figureheadlaw12_DigitMixed.j0 k a0 a1 a2 a3 (decide ((wrap64 ((a2.size : Int) + (a3.size : Int))) > 100))) else (figureheadlaw12_DigitMixed.j0 k a0 a1 a2 a3 true))) else (figureheadlaw12_DigitMixed.j0 k a0 a1 a2 a3 true)))) else (figureheadlaw12_DigitMixed.j0 k a0 a1 a2 a3 true)))) else (figureheadlaw12_DigitMixed.j0 k a0 a1 a2 a3 true)))) = some r := h
  clear h
  have HC5 := Aside0.mk H
  clear H
  go_enter Tryd.func11, Tryd.ntmps11
  go_upto_region 1 with (fail)
  go_cut [59] (fun v59 wc => ∃ (kq : Nat) (x59_4 : Bool), v59 = .bool x59_4 ∧ Aside0 (figureheadlaw12_DigitMixed.j0 kq a0 a1 a2 a3 x59_4 = some r) ∧ Aside0 (kq ≤ k) ∧ Aside0 (Below w.heap.size w wc))
  case first =>
    have H := HC5.out
    clear HC5
    by_cases c6 : a0 < 0
    · rw [if_pos c6] at H
      have c6b0 : decide (a0 < 0) = true := decide_eq_true c6
      clear c6
      (first | rw [c6b0] | (simp only [i64_w, i32_w]; rw [c6b0]) | skip)
      have H' := Aside0.mk H
      clear H
      go_wp2
      go_meet
      case rel => exact ⟨_, (true), (by first | rfl | (simp; done) | (simp [*]; done) | (simp [bneNil_]; done)), H', ⟨by first | omega | exact Nat.le_refl _⟩, ⟨by repeat (first | (with_reducible first | exact HB.out | apply below_alloc | apply pw_below_drewN | apply below_drew1) | exact HB.out)⟩⟩
    · rw [if_neg c6] at H
      have c6b0 : decide (a0 < 0) = false := decide_eq_false c6
      clear c6
      (first | rw [c6b0] | (simp only [i64_w, i32_w]; rw [c6b0]) | skip)
      replace H := Option.bind_eq_some_iff.mp H
      obtain ⟨t249, A70, H⟩ := H
      replace H : (if t249 = true then (if a1 < 0 then (figureheadlaw12_DigitMixed.j0 k a0 a1 a2 a3 true) else ((figureheadref11_Zero.f k a1).bind fun t250 => (if t250 = true then (if (wrap32 (a1 - a0)) < 10 then (if (wrap32 (a0 - a1)) < 10 then (figureheadlaw12_DigitMixed.j0 k a0 a1 a2 a3 true) else ((figureheadref05_Digits.f k a2).bind fun t251 => (if t251 = true then ((figureheadref05_Digits.f k a3).bind fun t252 => (if t252 = true then (figureheadlaw12_DigitMixed.j0 k a0 a1 a2 a3 (decide ((wrap64 ((a2.size : Int) + (a3.size : Int))) > 100))) else (figureheadlaw12_DigitMixed.j0 k a0 a1 a2 a3 true))) else (figureheadlaw12_DigitMixed.j0 k a0 a1 a2 a3 true)))) else ((figureheadref05_Digits.f k a2).bind fun t253 => (if t253 = true then ((figureheadref05_Digits.f k a3).bind fun t254 => (if t254 = true then (figureheadlaw12_DigitMixed.j0 k a0 a1 a2 a3 (decide ((wrap64 ((a2.size : Int) + (a3.size : Int))) > 100))) else (figureheadlaw12_DigitMixed.j0 k a0 a1 a2 a3 true))) else (figureheadlaw12_DigitMixed.j0 k a0 a1 a2 a3 true)))) else (figureheadlaw12_DigitMixed.j0 k a0 a1 a2 a3 true)))) else (figureheadlaw12_DigitMixed.j0 k a0 a1 a2 a3 true)) = some r := H
      have A7 := Aside0.mk A70
      clear A70
      by_cases c8 : t249 = true
      · subst c8
        have H1 : (if a1 < 0 then (figureheadlaw12_DigitMixed.j0 k a0 a1 a2 a3 true) else ((figureheadref11_Zero.f k a1).bind fun t250 => (if t250 = true then (if (wrap32 (a1 - a0)) < 10 then (if (wrap32 (a0 - a1)) < 10 then (figureheadlaw12_DigitMixed.j0 k a0 a1 a2 a3 true) else ((figureheadref05_Digits.f k a2).bind fun t251 => (if t251 = true then ((figureheadref05_Digits.f k a3).bind fun t252 => (if t252 = true then (figureheadlaw12_DigitMixed.j0 k a0 a1 a2 a3 (decide ((wrap64 ((a2.size : Int) + (a3.size : Int))) > 100))) else (figureheadlaw12_DigitMixed.j0 k a0 a1 a2 a3 true))) else (figureheadlaw12_DigitMixed.j0 k a0 a1 a2 a3 true)))) else ((figureheadref05_Digits.f k a2).bind fun t253 => (if t253 = true then ((figureheadref05_Digits.f k a3).bind fun t254 => (if t254 = true then (figureheadlaw12_DigitMixed.j0 k a0 a1 a2 a3 (decide ((wrap64 ((a2.size : Int) + (a3.size : Int))) > 100))) else (figureheadlaw12_DigitMixed.j0 k a0 a1 a2 a3 true))) else (figureheadlaw12_DigitMixed.j0 k a0 a1 a2 a3 true)))) else (figureheadlaw12_DigitMixed.j0 k a0 a1 a2 a3 true)))) = some r := by rw [if_pos rfl] at H; exact H
        clear H
        have H := H1
        clear H1
        by_cases c9 : a1 < 0
        · rw [if_pos c9] at H
          have c9b0 : decide (a1 < 0) = true := decide_eq_true c9
          clear c9
          have H' := Aside0.mk H
          clear H
          go_wp2_with (first | (go_at_call 24; (with_reducible refine (figureheadref11_Zero.calls k a0 true _ A7.out).mono ?_); rintro e w' ⟨rfl, ⟨nd, rfl⟩⟩))
          go_meet
          case rel => exact ⟨_, (true), (by first | rfl | (simp; done) | (simp [*]; done) | (simp [bneNil_]; done)), H', ⟨by first | omega | exact Nat.le_refl _⟩, ⟨by repeat (first | (with_reducible first | exact HB.out | apply below_alloc | apply pw_below_drewN | apply below_drew1) | exact HB.out)⟩⟩
        · rw [if_neg c9] at H
          have c9b0 : decide (a1 < 0) = false := decide_eq_false c9
          clear c9
          replace H := Option.bind_eq_some_iff.mp H
          obtain ⟨t250, A100, H⟩ := H
          replace H : (if t250 = true then (if (wrap32 (a1 - a0)) < 10 then (if (wrap32 (a0 - a1)) < 10 then (figureheadlaw12_DigitMixed.j0 k a0 a1 a2 a3 true) else ((figureheadref05_Digits.f k a2).bind fun t251 => (if t251 = true then ((figureheadref05_Digits.f k a3).bind fun t252 => (if t252 = true then (figureheadlaw12_DigitMixed.j0 k a0 a1 a2 a3 (decide ((wrap64 ((a2.size : Int) + (a3.size : Int))) > 100))) else (figureheadlaw12_DigitMixed.j0 k a0 a1 a2 a3 true))) else (figureheadlaw12_DigitMixed.j0 k a0 a1 a2 a3 true)))) else ((figureheadref05_Digits.f k a2).bind fun t253 => (if t253 = true then ((figureheadref05_Digits.f k a3).bind fun t254 => (if t254 = true then (figureheadlaw12_DigitMixed.j0 k a0 a1 a2 a3 (decide ((wrap64 ((a2.size : Int) + (a3.size : Int))) > 100))) else (figureheadlaw12_DigitMixed.j0 k a0 a1 a2 a3 true))) else (figureheadlaw12_DigitMixed.j0 k a0 a1 a2 a3 true)))) else (figureheadlaw12_DigitMixed.j0 k a0 a1 a2 a3 true)) = some r := H
          have A10 := Aside0.mk A100
          clear A100
          by_cases c11 : t250 = true
          · subst c11
            have H1 : (if (wrap32 (a1 - a0)) < 10 then (if (wrap32 (a0 - a1)) < 10 then (figureheadlaw12_DigitMixed.j0 k a0 a1 a2 a3 true) else ((figureheadref05_Digits.f k a2).bind fun t251 => (if t251 = true then ((figureheadref05_Digits.f k a3).bind fun t252 => (if t252 = true then (figureheadlaw12_DigitMixed.j0 k a0 a1 a2 a3 (decide ((wrap64 ((a2.size : Int) + (a3.size : Int))) > 100))) else (figureheadlaw12_DigitMixed.j0 k a0 a1 a2 a3 true))) else (figureheadlaw12_DigitMixed.j0 k a0 a1 a2 a3 true)))) else ((figureheadref05_Digits.f k a2).bind fun t253 => (if t253 = true then ((figureheadref05_Digits.f k a3).bind fun t254 => (if t254 = true then (figureheadlaw12_DigitMixed.j0 k a0 a1 a2 a3 (decide ((wrap64 ((a2.size : Int) + (a3.size : Int))) > 100))) else (figureheadlaw12_DigitMixed.j0 k a0 a1 a2 a3 true))) else (figureheadlaw12_DigitMixed.j0 k a0 a1 a2 a3 true)))) = some r := by rw [if_pos rfl] at H; exact H
            clear H
            have H := H1
            clear H1
            by_cases c12 : (wrap32 (a1 - a0)) < 10
            · rw [if_pos c12] at H
              have c12b0 : decide ((wrap32 (a1 - a0)) < 10) = true := decide_eq_true c12
              clear c12
              by_cases c13 : (wrap32 (a0 - a1)) < 10
              · rw [if_pos c13] at H
                have c13b0 : decide ((wrap32 (a0 - a1)) < 10) = true := decide_eq_true c13
                clear c13
                have H' := Aside0.mk H
                clear H
                go_wp2_with (first | (go_at_call 24; (with_reducible refine (figureheadref11_Zero.calls k a0 true _ A7.out).mono ?_); rintro e w' ⟨rfl, ⟨nd, rfl⟩⟩) | (go_at_call 24; (with_reducible refine (figureheadref11_Zero.calls k a1 true _ A10.out).mono ?_); rintro e w' ⟨rfl, ⟨nd, rfl⟩⟩))
                go_meet
                case rel => exact ⟨_, (true), (by first | rfl | (simp; done) | (simp [*]; done) | (simp [bneNil_]; done)), H', ⟨by first | omega | exact Nat.le_refl _⟩, ⟨by repeat (first | (with_reducible first | exact HB.out | apply below_alloc | apply pw_below_drewN | apply below_drew1) | exact HB.out)⟩⟩
              · rw [if_neg c13] at H
                have c13b0 : decide ((wrap32 (a0 - a1)) < 10) = false := decide_eq_false c13
                clear c13
                replace H := Option.bind_eq_some_iff.mp H
                obtain ⟨t251, A140, H⟩ := H
                replace H : (if t251 = true then ((figureheadref05_Digits.f k a3).bind fun t252 => (if t252 = true then (figureheadlaw12_DigitMixed.j0 k a0 a1 a2 a3 (decide ((wrap64 ((a2.size : Int) + (a3.size : Int))) > 100))) else (figureheadlaw12_DigitMixed.j0 k a0 a1 a2 a3 true))) else (figureheadlaw12_DigitMixed.j0 k a0 a1 a2 a3 true)) = some r := H
                have A14 := Aside0.mk A140
                clear A140
                by_cases c15 : t251 = true
                · subst c15
                  have H1 : ((figureheadref05_Digits.f k a3).bind fun t252 => (if t252 = true then (figureheadlaw12_DigitMixed.j0 k a0 a1 a2 a3 (decide ((wrap64 ((a2.size : Int) + (a3.size : Int))) > 100))) else (figureheadlaw12_DigitMixed.j0 k a0 a1 a2 a3 true))) = some r := by rw [if_pos rfl] at H; exact H
                  clear H
                  have H := H1
                  clear H1
                  replace H := Option.bind_eq_some_iff.mp H
                  obtain ⟨t252, A160, H⟩ := H
                  replace H : (if t252 = true then (figureheadlaw12_DigitMixed.j0 k a0 a1 a2 a3 (decide ((wrap64 ((a2.size : Int) + (a3.size : Int))) > 100))) else (figureheadlaw12_DigitMixed.j0 k a0 a1 a2 a3 true)) = some r := H
                  have A16 := Aside0.mk A160
                  clear A160
                  by_cases c17 : t252 = true
                  · subst c17
                    have H1 : (figureheadlaw12_DigitMixed.j0 k a0 a1 a2 a3 (decide ((wrap64 ((a2.size : Int) + (a3.size : Int))) > 100))) = some r := by rw [if_pos rfl] at H; exact H
                    clear H
                    have H := H1
                    clear H1
                    have H' := Aside0.mk H
                    clear H
                    go_wp2_with (first | (go_at_call 24; (with_reducible refine (figureheadref11_Zero.calls k a0 true _ A7.out).mono ?_); rintro e w' ⟨rfl, ⟨nd, rfl⟩⟩) | (go_at_call 24; (with_reducible refine (figureheadref11_Zero.calls k a1 true _ A10.out).mono ?_); rintro e w' ⟨rfl, ⟨nd, rfl⟩⟩) | (go_at_call 29; (with_reducible refine (figureheadref05_Digits.calls k a2 true _ A14.out).mono ?_); rintro e w' ⟨rfl, ⟨nd, rfl⟩⟩) | (go_at_call 29; (with_reducible refine (figureheadref05_Digits.calls k a3 true _ A16.out).mono ?_); rintro e w' ⟨rfl, ⟨nd, rfl⟩⟩))
                    go_meet
                    case rel => exact ⟨_, (decide ((wrap64 ((a2.size : Int) + (a3.size : Int))) > 100)), (by first | rfl | (simp; done) | (simp [*]; done) | (simp [bneNil_]; done)), H', ⟨by first | omega | exact Nat.le_refl _⟩, ⟨by repeat (first | (with_reducible first | exact HB.out | apply below_alloc | apply pw_below_drewN | apply below_drew1) | exact HB.out)⟩⟩
                  · replace c17 := Bool.eq_false_iff.mpr c17
                    subst c17
                    have H1 : (figureheadlaw12_DigitMixed.j0 k a0 a1 a2 a3 true) = some r := by rw [if_neg (show ¬ (false = true) by decide)] at H; exact H
                    clear H
                    have H := H1
                    clear H1
                    have H' := Aside0.mk H
                    clear H
                    go_wp2_with (first | (go_at_call 24; (with_reducible refine (figureheadref11_Zero.calls k a0 true _ A7.out).mono ?_); rintro e w' ⟨rfl, ⟨nd, rfl⟩⟩) | (go_at_call 24; (with_reducible refine (figureheadref11_Zero.calls k a1 true _ A10.out).mono ?_); rintro e w' ⟨rfl, ⟨nd, rfl⟩⟩) | (go_at_call 29; (with_reducible refine (figureheadref05_Digits.calls k a2 true _ A14.out).mono ?_); rintro e w' ⟨rfl, ⟨nd, rfl⟩⟩) | (go_at_call 29; (with_reducible refine (figureheadref05_Digits.calls k a3 false _ A16.out).mono ?_); rintro e w' ⟨rfl, ⟨nd, rfl⟩⟩))
                    go_meet
                    case rel => exact ⟨_, (true), (by first | rfl | (simp; done) | (simp [*]; done) | (simp [bneNil_]; done)), H', ⟨by first | omega | exact Nat.le_refl _⟩, ⟨by repeat (first | (with_reducible first | exact HB.out | apply below_alloc | apply pw_below_drewN | apply below_drew1) | exact HB.out)⟩⟩
                · replace c15 := Bool.eq_false_iff.mpr c15
                  subst c15
                  have H1 : (figureheadlaw12_DigitMixed.j0 k a0 a1 a2 a3 true) = some r := by rw [if_neg (show ¬ (false = true) by decide)] at H; exact H
                  clear H
                  have H := H1
                  clear H1
                  have H' := Aside0.mk H
                  clear H
                  go_wp2_with (first | (go_at_call 24; (with_reducible refine (figureheadref11_Zero.calls k a0 true _ A7.out).mono ?_); rintro e w' ⟨rfl, ⟨nd, rfl⟩⟩) | (go_at_call 24; (with_reducible refine (figureheadref11_Zero.calls k a1 true _ A10.out).mono ?_); rintro e w' ⟨rfl, ⟨nd, rfl⟩⟩) | (go_at_call 29; (with_reducible refine (figureheadref05_Digits.calls k a2 false _ A14.out).mono ?_); rintro e w' ⟨rfl, ⟨nd, rfl⟩⟩))
                  go_meet
                  case rel => exact ⟨_, (true), (by first | rfl | (simp; done) | (simp [*]; done) | (simp [bneNil_]; done)), H', ⟨by first | omega | exact Nat.le_refl _⟩, ⟨by repeat (first | (with_reducible first | exact HB.out | apply below_alloc | apply pw_below_drewN | apply below_drew1) | exact HB.out)⟩⟩
            · rw [if_neg c12] at H
              have c12b0 : decide ((wrap32 (a1 - a0)) < 10) = false := decide_eq_false c12
              clear c12
              replace H := Option.bind_eq_some_iff.mp H
              obtain ⟨t253, A180, H⟩ := H
              replace H : (if t253 = true then ((figureheadref05_Digits.f k a3).bind fun t254 => (if t254 = true then (figureheadlaw12_DigitMixed.j0 k a0 a1 a2 a3 (decide ((wrap64 ((a2.size : Int) + (a3.size : Int))) > 100))) else (figureheadlaw12_DigitMixed.j0 k a0 a1 a2 a3 true))) else (figureheadlaw12_DigitMixed.j0 k a0 a1 a2 a3 true)) = some r := H
              have A18 := Aside0.mk A180
              clear A180
              by_cases c19 : t253 = true
              · subst c19
                have H1 : ((figureheadref05_Digits.f k a3).bind fun t254 => (if t254 = true then (figureheadlaw12_DigitMixed.j0 k a0 a1 a2 a3 (decide ((wrap64 ((a2.size : Int) + (a3.size : Int))) > 100))) else (figureheadlaw12_DigitMixed.j0 k a0 a1 a2 a3 true))) = some r := by rw [if_pos rfl] at H; exact H
                clear H
                have H := H1
                clear H1
                replace H := Option.bind_eq_some_iff.mp H
                obtain ⟨t254, A200, H⟩ := H
                replace H : (if t254 = true then (figureheadlaw12_DigitMixed.j0 k a0 a1 a2 a3 (decide ((wrap64 ((a2.size : Int) + (a3.size : Int))) > 100))) else (figureheadlaw12_DigitMixed.j0 k a0 a1 a2 a3 true)) = some r := H
                have A20 := Aside0.mk A200
                clear A200
                by_cases c21 : t254 = true
                · subst c21
                  have H1 : (figureheadlaw12_DigitMixed.j0 k a0 a1 a2 a3 (decide ((wrap64 ((a2.size : Int) + (a3.size : Int))) > 100))) = some r := by rw [if_pos rfl] at H; exact H
                  clear H
                  have H := H1
                  clear H1
                  have H' := Aside0.mk H
                  clear H
                  go_wp2_with (first | (go_at_call 24; (with_reducible refine (figureheadref11_Zero.calls k a0 true _ A7.out).mono ?_); rintro e w' ⟨rfl, ⟨nd, rfl⟩⟩) | (go_at_call 24; (with_reducible refine (figureheadref11_Zero.calls k a1 true _ A10.out).mono ?_); rintro e w' ⟨rfl, ⟨nd, rfl⟩⟩) | (go_at_call 29; (with_reducible refine (figureheadref05_Digits.calls k a2 true _ A18.out).mono ?_); rintro e w' ⟨rfl, ⟨nd, rfl⟩⟩) | (go_at_call 29; (with_reducible refine (figureheadref05_Digits.calls k a3 true _ A20.out).mono ?_); rintro e w' ⟨rfl, ⟨nd, rfl⟩⟩))
                  go_meet
                  case rel => exact ⟨_, (decide ((wrap64 ((a2.size : Int) + (a3.size : Int))) > 100)), (by first | rfl | (simp; done) | (simp [*]; done) | (simp [bneNil_]; done)), H', ⟨by first | omega | exact Nat.le_refl _⟩, ⟨by repeat (first | (with_reducible first | exact HB.out | apply below_alloc | apply pw_below_drewN | apply below_drew1) | exact HB.out)⟩⟩
                · replace c21 := Bool.eq_false_iff.mpr c21
                  subst c21
                  have H1 : (figureheadlaw12_DigitMixed.j0 k a0 a1 a2 a3 true) = some r := by rw [if_neg (show ¬ (false = true) by decide)] at H; exact H
                  clear H
                  have H := H1
                  clear H1
                  have H' := Aside0.mk H
                  clear H
                  go_wp2_with (first | (go_at_call 24; (with_reducible refine (figureheadref11_Zero.calls k a0 true _ A7.out).mono ?_); rintro e w' ⟨rfl, ⟨nd, rfl⟩⟩) | (go_at_call 24; (with_reducible refine (figureheadref11_Zero.calls k a1 true _ A10.out).mono ?_); rintro e w' ⟨rfl, ⟨nd, rfl⟩⟩) | (go_at_call 29; (with_reducible refine (figureheadref05_Digits.calls k a2 true _ A18.out).mono ?_); rintro e w' ⟨rfl, ⟨nd, rfl⟩⟩) | (go_at_call 29; (with_reducible refine (figureheadref05_Digits.calls k a3 false _ A20.out).mono ?_); rintro e w' ⟨rfl, ⟨nd, rfl⟩⟩))
                  go_meet
                  case rel => exact ⟨_, (true), (by first | rfl | (simp; done) | (simp [*]; done) | (simp [bneNil_]; done)), H', ⟨by first | omega | exact Nat.le_refl _⟩, ⟨by repeat (first | (with_reducible first | exact HB.out | apply below_alloc | apply pw_below_drewN | apply below_drew1) | exact HB.out)⟩⟩
              · replace c19 := Bool.eq_false_iff.mpr c19
                subst c19
                have H1 : (figureheadlaw12_DigitMixed.j0 k a0 a1 a2 a3 true) = some r := by rw [if_neg (show ¬ (false = true) by decide)] at H; exact H
                clear H
                have H := H1
                clear H1
                have H' := Aside0.mk H
                clear H
                go_wp2_with (first | (go_at_call 24; (with_reducible refine (figureheadref11_Zero.calls k a0 true _ A7.out).mono ?_); rintro e w' ⟨rfl, ⟨nd, rfl⟩⟩) | (go_at_call 24; (with_reducible refine (figureheadref11_Zero.calls k a1 true _ A10.out).mono ?_); rintro e w' ⟨rfl, ⟨nd, rfl⟩⟩) | (go_at_call 29; (with_reducible refine (figureheadref05_Digits.calls k a2 false _ A18.out).mono ?_); rintro e w' ⟨rfl, ⟨nd, rfl⟩⟩))
                go_meet
                case rel => exact ⟨_, (true), (by first | rfl | (simp; done) | (simp [*]; done) | (simp [bneNil_]; done)), H', ⟨by first | omega | exact Nat.le_refl _⟩, ⟨by repeat (first | (with_reducible first | exact HB.out | apply below_alloc | apply pw_below_drewN | apply below_drew1) | exact HB.out)⟩⟩
          · replace c11 := Bool.eq_false_iff.mpr c11
            subst c11
            have H1 : (figureheadlaw12_DigitMixed.j0 k a0 a1 a2 a3 true) = some r := by rw [if_neg (show ¬ (false = true) by decide)] at H; exact H
            clear H
            have H := H1
            clear H1
            have H' := Aside0.mk H
            clear H
            go_wp2_with (first | (go_at_call 24; (with_reducible refine (figureheadref11_Zero.calls k a0 true _ A7.out).mono ?_); rintro e w' ⟨rfl, ⟨nd, rfl⟩⟩) | (go_at_call 24; (with_reducible refine (figureheadref11_Zero.calls k a1 false _ A10.out).mono ?_); rintro e w' ⟨rfl, ⟨nd, rfl⟩⟩))
            go_meet
            case rel => exact ⟨_, (true), (by first | rfl | (simp; done) | (simp [*]; done) | (simp [bneNil_]; done)), H', ⟨by first | omega | exact Nat.le_refl _⟩, ⟨by repeat (first | (with_reducible first | exact HB.out | apply below_alloc | apply pw_below_drewN | apply below_drew1) | exact HB.out)⟩⟩
      · replace c8 := Bool.eq_false_iff.mpr c8
        subst c8
        have H1 : (figureheadlaw12_DigitMixed.j0 k a0 a1 a2 a3 true) = some r := by rw [if_neg (show ¬ (false = true) by decide)] at H; exact H
        clear H
        have H := H1
        clear H1
        have H' := Aside0.mk H
        clear H
        go_wp2_with (first | (go_at_call 24; (with_reducible refine (figureheadref11_Zero.calls k a0 false _ A7.out).mono ?_); rintro e w' ⟨rfl, ⟨nd, rfl⟩⟩))
        go_meet
        case rel => exact ⟨_, (true), (by first | rfl | (simp; done) | (simp [*]; done) | (simp [bneNil_]; done)), H', ⟨by first | omega | exact Nat.le_refl _⟩, ⟨by repeat (first | (with_reducible first | exact HB.out | apply below_alloc | apply pw_below_drewN | apply below_drew1) | exact HB.out)⟩⟩
  case rest =>
    clear HC5
    try clear c1
    try clear c2
    try clear p2
    try clear p3
    try clear c6
    try clear c6b0
    try clear p6
    try clear c8
    try clear c9
    try clear c9b0
    try clear c11
    try clear c12
    try clear c12b0
    try clear c13
    try clear c13b0
    try clear c15
    try clear c17
    try clear c19
    try clear c21
    obtain ⟨kq, x59_4, rfl, HA, HJ4, HB⟩ := hcut
    cases kq with
    | zero => exact absurd HA.out (by simp [figureheadlaw12_DigitMixed.j0])
    | succ kj4 =>
      have H := HA.out
      clear HA
      simp only [figureheadlaw12_DigitMixed.j0] at H
      by_cases c22 : x59_4 = true
      · subst c22
        have H1 : ((figureheadlaw12_answers.f kj4).bind fun t255 => (some t255)) = some r := by rw [if_pos rfl] at H; exact H
        clear H
        have H := H1
        clear H1
        replace H := Option.bind_eq_some_iff.mp H
        obtain ⟨t255, A230, H⟩ := H
        replace H : (some t255) = some r := H
        have A23 := Aside0.mk A230
        clear A230
        obtain rfl := Option.some.inj H
        go_wp2_with (first | ((with_reducible refine gate_callee (f := 25) rfl ?_); refine goesL_ (some 60) rfl rfl Tryd.func25 (by kernel_rfl) rfl #[] rfl (by (try simp only [List.map_toArray, List.map_cons, List.map_nil]); first | done | rfl | (simp only [List.length_drop, List.length_take]; rfl)) ?_; (with_reducible refine (figureheadlaw12_answers.calls kj4  t255 _ ?side1 A23.out).mono ?_); (case side1 => exact Tabs_below HT.out (by repeat (first | (with_reducible first | exact HB.out | apply below_alloc | apply pw_below_drewN | apply below_drew1) | exact HB.out))); rintro e w24 ⟨rfl, hb⟩; refine ⟨_, rfl, ?_⟩; have n0_ := Aside0.mk (below_step (by repeat (first | (with_reducible first | exact HB.out | apply below_alloc | apply pw_below_drewN | apply below_drew1) | exact HB.out)) hb); clear HB; have HB := n0_; clear n0_; (try clear hb); (try clear hb2); (try clear hk); (try clear hi)))
        go_ret
        exact ⟨by first | rfl | (simp [errW_none, errW_some] <;> rfl) | (simp [*, errW_none, errW_some] <;> rfl), by repeat (first | (with_reducible first | exact HB.out | apply below_alloc | apply pw_below_drewN | apply below_drew1) | exact HB.out)⟩
      · replace c22 := Bool.eq_false_iff.mpr c22
        subst c22
        have H1 : ((figureheadref11_Put.f kj4 a0 a2).bind fun t256 => ((figureheadref11_Put.f kj4 a1 a3).bind fun t257 => (if t256.size + t257.size ≤ 9223372036854775807 then ((digit_Get.f a0 (t256 ++ t257)).bind fun bt258 => ((digit_Get.f a1 (t256 ++ t257)).bind fun bt260 => ((figureheadlaw12_answers.f kj4).bind fun t262 => (if t262 = true then (if bt258.2 = true then (some false) else (if bt260.2 = true then (some false) else ((digit_Run.f a0 (t256 ++ t257)).bind fun t263 => ((figureheadref11_Put.f kj4 a0 a2).bind fun t264 => (some (t263 == (t264.size : Int))))))) else (some false))))) else (none)))) = some r := by rw [if_neg (show ¬ (false = true) by decide)] at H; exact H
        clear H
        have H := H1
        clear H1
        replace H := Option.bind_eq_some_iff.mp H
        obtain ⟨t256, A250, H⟩ := H
        replace H : ((figureheadref11_Put.f kj4 a1 a3).bind fun t257 => (if t256.size + t257.size ≤ 9223372036854775807 then ((digit_Get.f a0 (t256 ++ t257)).bind fun bt258 => ((digit_Get.f a1 (t256 ++ t257)).bind fun bt260 => ((figureheadlaw12_answers.f kj4).bind fun t262 => (if t262 = true then (if bt258.2 = true then (some false) else (if bt260.2 = true then (some false) else ((digit_Run.f a0 (t256 ++ t257)).bind fun t263 => ((figureheadref11_Put.f kj4 a0 a2).bind fun t264 => (some (t263 == (t264.size : Int))))))) else (some false))))) else (none))) = some r := H
        have A25 := Aside0.mk A250
        clear A250
        replace H := Option.bind_eq_some_iff.mp H
        obtain ⟨t257, A260, H⟩ := H
        replace H : (if t256.size + t257.size ≤ 9223372036854775807 then ((digit_Get.f a0 (t256 ++ t257)).bind fun bt258 => ((digit_Get.f a1 (t256 ++ t257)).bind fun bt260 => ((figureheadlaw12_answers.f kj4).bind fun t262 => (if t262 = true then (if bt258.2 = true then (some false) else (if bt260.2 = true then (some false) else ((digit_Run.f a0 (t256 ++ t257)).bind fun t263 => ((figureheadref11_Put.f kj4 a0 a2).bind fun t264 => (some (t263 == (t264.size : Int))))))) else (some false))))) else (none)) = some r := H
        have A26 := Aside0.mk A260
        clear A260
        by_cases c27 : t256.size + t257.size ≤ 9223372036854775807
        · rw [if_pos c27] at H
          have c27b0 := eq_true c27
          have c27b1 : decide (t256.size + t257.size ≤ 9223372036854775807) = true := decide_eq_true c27
          try have c27b2 : (9223372036854775807 < t256.size + t257.size) = False := eq_false (Nat.not_lt.2 c27)
          replace H := Option.bind_eq_some_iff.mp H
          obtain ⟨⟨t258, t259⟩, A280, H⟩ := H
          replace H : ((digit_Get.f a1 (t256 ++ t257)).bind fun bt260 => ((figureheadlaw12_answers.f kj4).bind fun t262 => (if t262 = true then (if t259 = true then (some false) else (if bt260.2 = true then (some false) else ((digit_Run.f a0 (t256 ++ t257)).bind fun t263 => ((figureheadref11_Put.f kj4 a0 a2).bind fun t264 => (some (t263 == (t264.size : Int))))))) else (some false)))) = some r := H
          have A28 := Aside0.mk A280
          clear A280
          replace H := Option.bind_eq_some_iff.mp H
          obtain ⟨⟨t260, t261⟩, A290, H⟩ := H
          replace H : ((figureheadlaw12_answers.f kj4).bind fun t262 => (if t262 = true then (if t259 = true then (some false) else (if t261 = true then (some false) else ((digit_Run.f a0 (t256 ++ t257)).bind fun t263 => ((figureheadref11_Put.f kj4 a0 a2).bind fun t264 => (some (t263 == (t264.size : Int))))))) else (some false))) = some r := H
          have A29 := Aside0.mk A290
          clear A290
          replace H := Option.bind_eq_some_iff.mp H
          obtain ⟨t262, A300, H⟩ := H
          replace H : (if t262 = true then (if t259 = true then (some false) else (if t261 = true then (some false) else ((digit_Run.f a0 (t256 ++ t257)).bind fun t263 => ((figureheadref11_Put.f kj4 a0 a2).bind fun t264 => (some (t263 == (t264.size : Int))))))) else (some false)) = some r := H
          have A30 := Aside0.mk A300
          clear A300
          by_cases c31 : t262 = true
          · subst c31
            have H1 : (if t259 = true then (some false) else (if t261 = true then (some false) else ((digit_Run.f a0 (t256 ++ t257)).bind fun t263 => ((figureheadref11_Put.f kj4 a0 a2).bind fun t264 => (some (t263 == (t264.size : Int))))))) = some r := by rw [if_pos rfl] at H; exact H
            clear H
            have H := H1
            clear H1
            by_cases c32 : t259 = true
            · subst c32
              have H1 : (some false) = some r := by rw [if_pos rfl] at H; exact H
              clear H
              have H := H1
              clear H1
              obtain rfl := Option.some.inj H
              go_wp2_with (first | ((with_reducible refine gate_callee (f := 31) rfl ?_); refine goesL_ (some 63) rfl rfl Tryd.func31 (by kernel_rfl) rfl #[.int .i32 a0, .string a2] rfl (by (try simp only [List.map_toArray, List.map_cons, List.map_nil]); first | done | rfl | (simp only [List.length_drop, List.length_take]; rfl)) ?_; (with_reducible refine (figureheadref11_Put.calls kj4 a0 a2 t256 _ A25.out).mono ?_); rintro e w33 ⟨rfl, hb⟩; refine ⟨_, rfl, ?_⟩; have n0_ := Aside0.mk (below_step (by repeat (first | (with_reducible first | exact HB.out | apply below_alloc | apply pw_below_drewN | apply below_drew1) | exact HB.out)) hb); clear HB; have HB := n0_; clear n0_; (try clear hb); (try clear hb2); (try clear hk); (try clear hi)) | ((with_reducible refine gate_callee (f := 31) rfl ?_); refine goesL_ (some 66) rfl rfl Tryd.func31 (by kernel_rfl) rfl #[.int .i32 a1, .string a3] rfl (by (try simp only [List.map_toArray, List.map_cons, List.map_nil]); first | done | rfl | (simp only [List.length_drop, List.length_take]; rfl)) ?_; (with_reducible refine (figureheadref11_Put.calls kj4 a1 a3 t257 _ A26.out).mono ?_); rintro e w34 ⟨rfl, hb⟩; refine ⟨_, rfl, ?_⟩; have n0_ := Aside0.mk (below_step (by repeat (first | (with_reducible first | exact HB.out | apply below_alloc | apply pw_below_drewN | apply below_drew1) | exact HB.out)) hb); clear HB; have HB := n0_; clear n0_; (try clear hb); (try clear hb2); (try clear hk); (try clear hi)) | ((with_reducible refine gate_callee (f := 30) rfl ?_); refine goesL_ (some 71) rfl rfl Tryd.func30 (by kernel_rfl) rfl #[.int .i32 a0, .string (t256 ++ t257)] rfl (by (try simp only [List.map_toArray, List.map_cons, List.map_nil]); first | done | rfl | (simp only [List.length_drop, List.length_take]; rfl)) ?_; (with_reducible refine (digit_Get.calls a0 (t256 ++ t257) t258 true _ ?side1 A28.out).mono ?_); (case side1 => exact Tabs_below HT.out (by repeat (first | (with_reducible first | exact HB.out | apply below_alloc | apply pw_below_drewN | apply below_drew1) | exact HB.out))); rintro e w35 ⟨rfl, hb⟩; refine ⟨_, rfl, ?_⟩; have n0_ := Aside0.mk (below_step (by repeat (first | (with_reducible first | exact HB.out | apply below_alloc | apply pw_below_drewN | apply below_drew1) | exact HB.out)) hb); clear HB; have HB := n0_; clear n0_; (try clear hb); (try clear hb2); (try clear hk); (try clear hi)) | ((with_reducible refine gate_callee (f := 30) rfl ?_); refine goesL_ (some 77) rfl rfl Tryd.func30 (by kernel_rfl) rfl #[.int .i32 a1, .string (t256 ++ t257)] rfl (by (try simp only [List.map_toArray, List.map_cons, List.map_nil]); first | done | rfl | (simp only [List.length_drop, List.length_take]; rfl)) ?_; (with_reducible refine (digit_Get.calls a1 (t256 ++ t257) t260 t261 _ ?side1 A29.out).mono ?_); (case side1 => exact Tabs_below HT.out (by repeat (first | (with_reducible first | exact HB.out | apply below_alloc | apply pw_below_drewN | apply below_drew1) | exact HB.out))); rintro e w36 ⟨rfl, hb⟩; refine ⟨_, rfl, ?_⟩; have n0_ := Aside0.mk (below_step (by repeat (first | (with_reducible first | exact HB.out | apply below_alloc | apply pw_below_drewN | apply below_drew1) | exact HB.out)) hb); clear HB; have HB := n0_; clear n0_; (try clear hb); (try clear hb2); (try clear hk); (try clear hi)) | ((with_reducible refine gate_callee (f := 25) rfl ?_); refine goesL_ (some 80) rfl rfl Tryd.func25 (by kernel_rfl) rfl #[] rfl (by (try simp only [List.map_toArray, List.map_cons, List.map_nil]); first | done | rfl | (simp only [List.length_drop, List.length_take]; rfl)) ?_; (with_reducible refine (figureheadlaw12_answers.calls kj4  true _ ?side1 A30.out).mono ?_); (case side1 => exact Tabs_below HT.out (by repeat (first | (with_reducible first | exact HB.out | apply below_alloc | apply pw_below_drewN | apply below_drew1) | exact HB.out))); rintro e w37 ⟨rfl, hb⟩; refine ⟨_, rfl, ?_⟩; have n0_ := Aside0.mk (below_step (by repeat (first | (with_reducible first | exact HB.out | apply below_alloc | apply pw_below_drewN | apply below_drew1) | exact HB.out)) hb); clear HB; have HB := n0_; clear n0_; (try clear hb); (try clear hb2); (try clear hk); (try clear hi)))
              go_ret
              exact ⟨by first | rfl | (simp [errW_none, errW_some] <;> rfl) | (simp [*, errW_none, errW_some] <;> rfl), by repeat (first | (with_reducible first | exact HB.out | apply below_alloc | apply pw_below_drewN | apply below_drew1) | exact HB.out)⟩
            · replace c32 := Bool.eq_false_iff.mpr c32
              subst c32
              have H1 : (if t261 = true then (some false) else ((digit_Run.f a0 (t256 ++ t257)).bind fun t263 => ((figureheadref11_Put.f kj4 a0 a2).bind fun t264 => (some (t263 == (t264.size : Int)))))) = some r := by rw [if_neg (show ¬ (false = true) by decide)] at H; exact H
              clear H
              have H := H1
              clear H1
              by_cases c38 : t261 = true
              · subst c38
                have H1 : (some false) = some r := by rw [if_pos rfl] at H; exact H
                clear H
                have H := H1
                clear H1
                obtain rfl := Option.some.inj H
                go_wp2_with (first | ((with_reducible refine gate_callee (f := 31) rfl ?_); refine goesL_ (some 63) rfl rfl Tryd.func31 (by kernel_rfl) rfl #[.int .i32 a0, .string a2] rfl (by (try simp only [List.map_toArray, List.map_cons, List.map_nil]); first | done | rfl | (simp only [List.length_drop, List.length_take]; rfl)) ?_; (with_reducible refine (figureheadref11_Put.calls kj4 a0 a2 t256 _ A25.out).mono ?_); rintro e w39 ⟨rfl, hb⟩; refine ⟨_, rfl, ?_⟩; have n0_ := Aside0.mk (below_step (by repeat (first | (with_reducible first | exact HB.out | apply below_alloc | apply pw_below_drewN | apply below_drew1) | exact HB.out)) hb); clear HB; have HB := n0_; clear n0_; (try clear hb); (try clear hb2); (try clear hk); (try clear hi)) | ((with_reducible refine gate_callee (f := 31) rfl ?_); refine goesL_ (some 66) rfl rfl Tryd.func31 (by kernel_rfl) rfl #[.int .i32 a1, .string a3] rfl (by (try simp only [List.map_toArray, List.map_cons, List.map_nil]); first | done | rfl | (simp only [List.length_drop, List.length_take]; rfl)) ?_; (with_reducible refine (figureheadref11_Put.calls kj4 a1 a3 t257 _ A26.out).mono ?_); rintro e w40 ⟨rfl, hb⟩; refine ⟨_, rfl, ?_⟩; have n0_ := Aside0.mk (below_step (by repeat (first | (with_reducible first | exact HB.out | apply below_alloc | apply pw_below_drewN | apply below_drew1) | exact HB.out)) hb); clear HB; have HB := n0_; clear n0_; (try clear hb); (try clear hb2); (try clear hk); (try clear hi)) | ((with_reducible refine gate_callee (f := 30) rfl ?_); refine goesL_ (some 71) rfl rfl Tryd.func30 (by kernel_rfl) rfl #[.int .i32 a0, .string (t256 ++ t257)] rfl (by (try simp only [List.map_toArray, List.map_cons, List.map_nil]); first | done | rfl | (simp only [List.length_drop, List.length_take]; rfl)) ?_; (with_reducible refine (digit_Get.calls a0 (t256 ++ t257) t258 false _ ?side1 A28.out).mono ?_); (case side1 => exact Tabs_below HT.out (by repeat (first | (with_reducible first | exact HB.out | apply below_alloc | apply pw_below_drewN | apply below_drew1) | exact HB.out))); rintro e w41 ⟨rfl, hb⟩; refine ⟨_, rfl, ?_⟩; have n0_ := Aside0.mk (below_step (by repeat (first | (with_reducible first | exact HB.out | apply below_alloc | apply pw_below_drewN | apply below_drew1) | exact HB.out)) hb); clear HB; have HB := n0_; clear n0_; (try clear hb); (try clear hb2); (try clear hk); (try clear hi)) | ((with_reducible refine gate_callee (f := 30) rfl ?_); refine goesL_ (some 77) rfl rfl Tryd.func30 (by kernel_rfl) rfl #[.int .i32 a1, .string (t256 ++ t257)] rfl (by (try simp only [List.map_toArray, List.map_cons, List.map_nil]); first | done | rfl | (simp only [List.length_drop, List.length_take]; rfl)) ?_; (with_reducible refine (digit_Get.calls a1 (t256 ++ t257) t260 true _ ?side1 A29.out).mono ?_); (case side1 => exact Tabs_below HT.out (by repeat (first | (with_reducible first | exact HB.out | apply below_alloc | apply pw_below_drewN | apply below_drew1) | exact HB.out))); rintro e w42 ⟨rfl, hb⟩; refine ⟨_, rfl, ?_⟩; have n0_ := Aside0.mk (below_step (by repeat (first | (with_reducible first | exact HB.out | apply below_alloc | apply pw_below_drewN | apply below_drew1) | exact HB.out)) hb); clear HB; have HB := n0_; clear n0_; (try clear hb); (try clear hb2); (try clear hk); (try clear hi)) | ((with_reducible refine gate_callee (f := 25) rfl ?_); refine goesL_ (some 80) rfl rfl Tryd.func25 (by kernel_rfl) rfl #[] rfl (by (try simp only [List.map_toArray, List.map_cons, List.map_nil]); first | done | rfl | (simp only [List.length_drop, List.length_take]; rfl)) ?_; (with_reducible refine (figureheadlaw12_answers.calls kj4  true _ ?side1 A30.out).mono ?_); (case side1 => exact Tabs_below HT.out (by repeat (first | (with_reducible first | exact HB.out | apply below_alloc | apply pw_below_drewN | apply below_drew1) | exact HB.out))); rintro e w43 ⟨rfl, hb⟩; refine ⟨_, rfl, ?_⟩; have n0_ := Aside0.mk (below_step (by repeat (first | (with_reducible first | exact HB.out | apply below_alloc | apply pw_below_drewN | apply below_drew1) | exact HB.out)) hb); clear HB; have HB := n0_; clear n0_; (try clear hb); (try clear hb2); (try clear hk); (try clear hi)))
                go_ret
                exact ⟨by first | rfl | (simp [errW_none, errW_some] <;> rfl) | (simp [*, errW_none, errW_some] <;> rfl), by repeat (first | (with_reducible first | exact HB.out | apply below_alloc | apply pw_below_drewN | apply below_drew1) | exact HB.out)⟩
              · replace c38 := Bool.eq_false_iff.mpr c38
                subst c38
                have H1 : ((digit_Run.f a0 (t256 ++ t257)).bind fun t263 => ((figureheadref11_Put.f kj4 a0 a2).bind fun t264 => (some (t263 == (t264.size : Int))))) = some r := by rw [if_neg (show ¬ (false = true) by decide)] at H; exact H
                clear H
                have H := H1
                clear H1
                replace H := Option.bind_eq_some_iff.mp H
                obtain ⟨t263, A440, H⟩ := H
                replace H : ((figureheadref11_Put.f kj4 a0 a2).bind fun t264 => (some (t263 == (t264.size : Int)))) = some r := H
                have A44 := Aside0.mk A440
                clear A440
                replace H := Option.bind_eq_some_iff.mp H
                obtain ⟨t264, A450, H⟩ := H
                replace H : (some (t263 == (t264.size : Int))) = some r := H
                have A45 := Aside0.mk A450
                clear A450
                obtain rfl := Option.some.inj H
                go_wp2_with (first | ((with_reducible refine gate_callee (f := 31) rfl ?_); refine goesL_ (some 63) rfl rfl Tryd.func31 (by kernel_rfl) rfl #[.int .i32 a0, .string a2] rfl (by (try simp only [List.map_toArray, List.map_cons, List.map_nil]); first | done | rfl | (simp only [List.length_drop, List.length_take]; rfl)) ?_; (with_reducible refine (figureheadref11_Put.calls kj4 a0 a2 t256 _ A25.out).mono ?_); rintro e w46 ⟨rfl, hb⟩; refine ⟨_, rfl, ?_⟩; have n0_ := Aside0.mk (below_step (by repeat (first | (with_reducible first | exact HB.out | apply below_alloc | apply pw_below_drewN | apply below_drew1) | exact HB.out)) hb); clear HB; have HB := n0_; clear n0_; (try clear hb); (try clear hb2); (try clear hk); (try clear hi)) | ((with_reducible refine gate_callee (f := 31) rfl ?_); refine goesL_ (some 66) rfl rfl Tryd.func31 (by kernel_rfl) rfl #[.int .i32 a1, .string a3] rfl (by (try simp only [List.map_toArray, List.map_cons, List.map_nil]); first | done | rfl | (simp only [List.length_drop, List.length_take]; rfl)) ?_; (with_reducible refine (figureheadref11_Put.calls kj4 a1 a3 t257 _ A26.out).mono ?_); rintro e w47 ⟨rfl, hb⟩; refine ⟨_, rfl, ?_⟩; have n0_ := Aside0.mk (below_step (by repeat (first | (with_reducible first | exact HB.out | apply below_alloc | apply pw_below_drewN | apply below_drew1) | exact HB.out)) hb); clear HB; have HB := n0_; clear n0_; (try clear hb); (try clear hb2); (try clear hk); (try clear hi)) | ((with_reducible refine gate_callee (f := 30) rfl ?_); refine goesL_ (some 71) rfl rfl Tryd.func30 (by kernel_rfl) rfl #[.int .i32 a0, .string (t256 ++ t257)] rfl (by (try simp only [List.map_toArray, List.map_cons, List.map_nil]); first | done | rfl | (simp only [List.length_drop, List.length_take]; rfl)) ?_; (with_reducible refine (digit_Get.calls a0 (t256 ++ t257) t258 false _ ?side1 A28.out).mono ?_); (case side1 => exact Tabs_below HT.out (by repeat (first | (with_reducible first | exact HB.out | apply below_alloc | apply pw_below_drewN | apply below_drew1) | exact HB.out))); rintro e w48 ⟨rfl, hb⟩; refine ⟨_, rfl, ?_⟩; have n0_ := Aside0.mk (below_step (by repeat (first | (with_reducible first | exact HB.out | apply below_alloc | apply pw_below_drewN | apply below_drew1) | exact HB.out)) hb); clear HB; have HB := n0_; clear n0_; (try clear hb); (try clear hb2); (try clear hk); (try clear hi)) | ((with_reducible refine gate_callee (f := 30) rfl ?_); refine goesL_ (some 77) rfl rfl Tryd.func30 (by kernel_rfl) rfl #[.int .i32 a1, .string (t256 ++ t257)] rfl (by (try simp only [List.map_toArray, List.map_cons, List.map_nil]); first | done | rfl | (simp only [List.length_drop, List.length_take]; rfl)) ?_; (with_reducible refine (digit_Get.calls a1 (t256 ++ t257) t260 false _ ?side1 A29.out).mono ?_); (case side1 => exact Tabs_below HT.out (by repeat (first | (with_reducible first | exact HB.out | apply below_alloc | apply pw_below_drewN | apply below_drew1) | exact HB.out))); rintro e w49 ⟨rfl, hb⟩; refine ⟨_, rfl, ?_⟩; have n0_ := Aside0.mk (below_step (by repeat (first | (with_reducible first | exact HB.out | apply below_alloc | apply pw_below_drewN | apply below_drew1) | exact HB.out)) hb); clear HB; have HB := n0_; clear n0_; (try clear hb); (try clear hb2); (try clear hk); (try clear hi)) | ((with_reducible refine gate_callee (f := 25) rfl ?_); refine goesL_ (some 80) rfl rfl Tryd.func25 (by kernel_rfl) rfl #[] rfl (by (try simp only [List.map_toArray, List.map_cons, List.map_nil]); first | done | rfl | (simp only [List.length_drop, List.length_take]; rfl)) ?_; (with_reducible refine (figureheadlaw12_answers.calls kj4  true _ ?side1 A30.out).mono ?_); (case side1 => exact Tabs_below HT.out (by repeat (first | (with_reducible first | exact HB.out | apply below_alloc | apply pw_below_drewN | apply below_drew1) | exact HB.out))); rintro e w50 ⟨rfl, hb⟩; refine ⟨_, rfl, ?_⟩; have n0_ := Aside0.mk (below_step (by repeat (first | (with_reducible first | exact HB.out | apply below_alloc | apply pw_below_drewN | apply below_drew1) | exact HB.out)) hb); clear HB; have HB := n0_; clear n0_; (try clear hb); (try clear hb2); (try clear hk); (try clear hi)) | (go_at_call 32; (with_reducible refine (digit_Run.calls a0 (t256 ++ t257) t263 _ ?side1 A44.out).mono ?_); (case side1 => exact Tabs_below HT.out (by repeat (first | (with_reducible first | exact HB.out | apply below_alloc | apply pw_below_drewN | apply below_drew1) | exact HB.out))); rintro e w51 ⟨rfl, hb⟩; have n0_ := Aside0.mk (below_step (by repeat (first | (with_reducible first | exact HB.out | apply below_alloc | apply pw_below_drewN | apply below_drew1) | exact HB.out)) hb); clear HB; have HB := n0_; clear n0_; (try clear hb); (try clear hb2); (try clear hk); (try clear hi)) | (go_at_call 31; (with_reducible refine (figureheadref11_Put.calls kj4 a0 a2 t264 _ A45.out).mono ?_); rintro e w52 ⟨rfl, hb⟩; have n0_ := Aside0.mk (below_step (by repeat (first | (with_reducible first | exact HB.out | apply below_alloc | apply pw_below_drewN | apply below_drew1) | exact HB.out)) hb); clear HB; have HB := n0_; clear n0_; (try clear hb); (try clear hb2); (try clear hk); (try clear hi)))
                go_ret
                exact ⟨by first | rfl | (simp [errW_none, errW_some] <;> rfl) | (simp [*, errW_none, errW_some] <;> rfl), by repeat (first | (with_reducible first | exact HB.out | apply below_alloc | apply pw_below_drewN | apply below_drew1) | exact HB.out)⟩
          · replace c31 := Bool.eq_false_iff.mpr c31
            subst c31
            have H1 : (some false) = some r := by rw [if_neg (show ¬ (false = true) by decide)] at H; exact H
            clear H
            have H := H1
            clear H1
            obtain rfl := Option.some.inj H
            go_wp2_with (first | ((with_reducible refine gate_callee (f := 31) rfl ?_); refine goesL_ (some 63) rfl rfl Tryd.func31 (by kernel_rfl) rfl #[.int .i32 a0, .string a2] rfl (by (try simp only [List.map_toArray, List.map_cons, List.map_nil]); first | done | rfl | (simp only [List.length_drop, List.length_take]; rfl)) ?_; (with_reducible refine (figureheadref11_Put.calls kj4 a0 a2 t256 _ A25.out).mono ?_); rintro e w53 ⟨rfl, hb⟩; refine ⟨_, rfl, ?_⟩; have n0_ := Aside0.mk (below_step (by repeat (first | (with_reducible first | exact HB.out | apply below_alloc | apply pw_below_drewN | apply below_drew1) | exact HB.out)) hb); clear HB; have HB := n0_; clear n0_; (try clear hb); (try clear hb2); (try clear hk); (try clear hi)) | ((with_reducible refine gate_callee (f := 31) rfl ?_); refine goesL_ (some 66) rfl rfl Tryd.func31 (by kernel_rfl) rfl #[.int .i32 a1, .string a3] rfl (by (try simp only [List.map_toArray, List.map_cons, List.map_nil]); first | done | rfl | (simp only [List.length_drop, List.length_take]; rfl)) ?_; (with_reducible refine (figureheadref11_Put.calls kj4 a1 a3 t257 _ A26.out).mono ?_); rintro e w54 ⟨rfl, hb⟩; refine ⟨_, rfl, ?_⟩; have n0_ := Aside0.mk (below_step (by repeat (first | (with_reducible first | exact HB.out | apply below_alloc | apply pw_below_drewN | apply below_drew1) | exact HB.out)) hb); clear HB; have HB := n0_; clear n0_; (try clear hb); (try clear hb2); (try clear hk); (try clear hi)) | ((with_reducible refine gate_callee (f := 30) rfl ?_); refine goesL_ (some 71) rfl rfl Tryd.func30 (by kernel_rfl) rfl #[.int .i32 a0, .string (t256 ++ t257)] rfl (by (try simp only [List.map_toArray, List.map_cons, List.map_nil]); first | done | rfl | (simp only [List.length_drop, List.length_take]; rfl)) ?_; (with_reducible refine (digit_Get.calls a0 (t256 ++ t257) t258 t259 _ ?side1 A28.out).mono ?_); (case side1 => exact Tabs_below HT.out (by repeat (first | (with_reducible first | exact HB.out | apply below_alloc | apply pw_below_drewN | apply below_drew1) | exact HB.out))); rintro e w55 ⟨rfl, hb⟩; refine ⟨_, rfl, ?_⟩; have n0_ := Aside0.mk (below_step (by repeat (first | (with_reducible first | exact HB.out | apply below_alloc | apply pw_below_drewN | apply below_drew1) | exact HB.out)) hb); clear HB; have HB := n0_; clear n0_; (try clear hb); (try clear hb2); (try clear hk); (try clear hi)) | ((with_reducible refine gate_callee (f := 30) rfl ?_); refine goesL_ (some 77) rfl rfl Tryd.func30 (by kernel_rfl) rfl #[.int .i32 a1, .string (t256 ++ t257)] rfl (by (try simp only [List.map_toArray, List.map_cons, List.map_nil]); first | done | rfl | (simp only [List.length_drop, List.length_take]; rfl)) ?_; (with_reducible refine (digit_Get.calls a1 (t256 ++ t257) t260 t261 _ ?side1 A29.out).mono ?_); (case side1 => exact Tabs_below HT.out (by repeat (first | (with_reducible first | exact HB.out | apply below_alloc | apply pw_below_drewN | apply below_drew1) | exact HB.out))); rintro e w56 ⟨rfl, hb⟩; refine ⟨_, rfl, ?_⟩; have n0_ := Aside0.mk (below_step (by repeat (first | (with_reducible first | exact HB.out | apply below_alloc | apply pw_below_drewN | apply below_drew1) | exact HB.out)) hb); clear HB; have HB := n0_; clear n0_; (try clear hb); (try clear hb2); (try clear hk); (try clear hi)) | ((with_reducible refine gate_callee (f := 25) rfl ?_); refine goesL_ (some 80) rfl rfl Tryd.func25 (by kernel_rfl) rfl #[] rfl (by (try simp only [List.map_toArray, List.map_cons, List.map_nil]); first | done | rfl | (simp only [List.length_drop, List.length_take]; rfl)) ?_; (with_reducible refine (figureheadlaw12_answers.calls kj4  false _ ?side1 A30.out).mono ?_); (case side1 => exact Tabs_below HT.out (by repeat (first | (with_reducible first | exact HB.out | apply below_alloc | apply pw_below_drewN | apply below_drew1) | exact HB.out))); rintro e w57 ⟨rfl, hb⟩; refine ⟨_, rfl, ?_⟩; have n0_ := Aside0.mk (below_step (by repeat (first | (with_reducible first | exact HB.out | apply below_alloc | apply pw_below_drewN | apply below_drew1) | exact HB.out)) hb); clear HB; have HB := n0_; clear n0_; (try clear hb); (try clear hb2); (try clear hk); (try clear hi)))
            go_ret
            exact ⟨by first | rfl | (simp [errW_none, errW_some] <;> rfl) | (simp [*, errW_none, errW_some] <;> rfl), by repeat (first | (with_reducible first | exact HB.out | apply below_alloc | apply pw_below_drewN | apply below_drew1) | exact HB.out)⟩
        · rw [if_neg c27] at H
          exact absurd H (by simp)

/-- THE ONE PURE STATEMENT of figureheadlaw12_DigitMixed. -/
def figureheadlaw12_DigitMixed.Pure : Prop := ∀ (a0 : Int) (a1 : Int) (a2 : ByteArray) (a3 : ByteArray), (Lit.int .i32 a0).wf = true → (Lit.int .i32 a1).wf = true → a2.size ≤ 140737488351232 → a3.size ≤ 140737488351232 → ∃ k, figureheadlaw12_DigitMixed.f k a0 a1 a2 a3 = some true


/-! ### figureheadlaw12_DigitJoins: function 12 -/
def figureheadlaw12_DigitJoins.j0 : Nat → Int → ByteArray → ByteArray → Int → Bool → Option (Bool)
  | 0, _, _, _, _, _ => none
  | k + 1, x0, x1, x2, x3, x56 => if x56 = true then ((figureheadlaw12_answers.f k).bind fun t269 => (some t269)) else ((digit_Put.f x0 x1).bind fun t270 => ((digit_Put.f x0 x2).bind fun t271 => ((figureheadref11_Bytes.f x3).bind fun t272 => (if t270.size + (strOfNums t272).size ≤ 9223372036854775807 then (if (t270 ++ (strOfNums t272)).size + t271.size ≤ 9223372036854775807 then ((digit_Get.f x0 ((t270 ++ (strOfNums t272)) ++ t271)).bind fun bt275 => (if t270.size + t271.size ≤ 9223372036854775807 then ((digit_Get.f x0 (t270 ++ t271)).bind fun bt277 => ((figureheadlaw12_answers.f k).bind fun t279 => (if t279 = true then (if x1.size + x2.size ≤ 9223372036854775807 then ((digit_Put.f x0 (x1 ++ x2)).bind fun t280 => (if (t270 ++ t271).toList = t280.toList then (if bt277.2 = true then (if bt277.1.toList = (x1 ++ x2).toList then (if bt275.2 = true then (some false) else ((digit_Run.f x0 ((t270 ++ (strOfNums t272)) ++ t271)).bind fun t281 => (some (t281 == (t270.size : Int))))) else (some false)) else (some false)) else (some false))) else (none)) else (some false)))) else (none))) else (none)) else (none)))))
def figureheadlaw12_DigitJoins.f (k : Nat) (a0 : Int) (a1 : ByteArray) (a2 : ByteArray) (a3 : Int) : Option (Bool) := if a0 < 0 then (figureheadlaw12_DigitJoins.j0 k a0 a1 a2 a3 true) else ((figureheadref11_Zero.f k a0).bind fun t265 => (if t265 = true then ((figureheadref05_Digits.f k a1).bind fun t266 => (if t266 = true then ((figureheadref05_Digits.f k a2).bind fun t267 => (if t267 = true then (if (wrap64 ((a1.size : Int) + (a2.size : Int))) > 200 then (figureheadlaw12_DigitJoins.j0 k a0 a1 a2 a3 true) else ((figureheadref11_Scalar.f a3).bind fun t268 => (if t268 = true then (if a3 ≥ a0 then (figureheadlaw12_DigitJoins.j0 k a0 a1 a2 a3 (decide ((wrap32 (a3 - a0)) < 10))) else (figureheadlaw12_DigitJoins.j0 k a0 a1 a2 a3 false)) else (figureheadlaw12_DigitJoins.j0 k a0 a1 a2 a3 true)))) else (figureheadlaw12_DigitJoins.j0 k a0 a1 a2 a3 true))) else (figureheadlaw12_DigitJoins.j0 k a0 a1 a2 a3 true))) else (figureheadlaw12_DigitJoins.j0 k a0 a1 a2 a3 true)))
theorem figureheadlaw12_DigitJoins.mono_l : ∀ k, (∀ y0 y1 y2 y3 y4, LeO (figureheadlaw12_DigitJoins.j0 k y0 y1 y2 y3 y4) (figureheadlaw12_DigitJoins.j0 (k + 1) y0 y1 y2 y3 y4))
  | 0 => fun _ _ _ _ _ r h => by simp [figureheadlaw12_DigitJoins.j0] at h
  | k + 1 => by
    have ih0 := figureheadlaw12_DigitJoins.mono_l k
    · intro y0 y1 y2 y3 y4
      unfold figureheadlaw12_DigitJoins.j0
      repeat' first
      | (with_reducible exact ih0 _ _ _ _ _)
      | (with_reducible exact figureheadlaw12_answers.mono _)
      | (with_reducible exact figureheadref05_Digits.mono _ _)
      | (with_reducible exact figureheadref11_Zero.mono _ _)
      | (with_reducible exact LeO.refl _)
      | (with_reducible exact LeO.none _)
      | (with_reducible refine LeO.ite ?_ ?_)
      | (with_reducible refine LeO.bind ?_ (fun _ => ?_))
      | exact ih0 _ _ _ _ _
      | exact figureheadlaw12_answers.mono _
      | exact figureheadref05_Digits.mono _ _
      | exact figureheadref11_Zero.mono _ _
      | exact LeO.none _
      | refine LeO.ite ?_ ?_
      | refine LeO.bind ?_ (fun _ => ?_)
theorem figureheadlaw12_DigitJoins.mono : ∀ a0 a1 a2 a3 k, LeO (figureheadlaw12_DigitJoins.f k a0 a1 a2 a3) (figureheadlaw12_DigitJoins.f (k + 1) a0 a1 a2 a3) := by
  intro a0 a1 a2 a3 k
  have ih0 := figureheadlaw12_DigitJoins.mono_l k
  unfold figureheadlaw12_DigitJoins.f
  repeat' first
      | (with_reducible exact ih0 _ _ _ _ _)
      | (with_reducible exact figureheadlaw12_answers.mono _)
      | (with_reducible exact figureheadref05_Digits.mono _ _)
      | (with_reducible exact figureheadref11_Zero.mono _ _)
      | (with_reducible exact LeO.refl _)
      | (with_reducible exact LeO.none _)
      | (with_reducible refine LeO.ite ?_ ?_)
      | (with_reducible refine LeO.bind ?_ (fun _ => ?_))
      | exact ih0 _ _ _ _ _
      | exact figureheadlaw12_answers.mono _
      | exact figureheadref05_Digits.mono _ _
      | exact figureheadref11_Zero.mono _ _
      | exact LeO.none _
      | refine LeO.ite ?_ ?_
      | refine LeO.bind ?_ (fun _ => ?_)
set_option maxHeartbeats 8000000 in
set_option maxRecDepth 100000 in
theorem figureheadlaw12_DigitJoins.calls (k : Nat) (a0 : Int) (a1 : ByteArray) (a2 : ByteArray) (a3 : Int) (r : Bool) (w : World) (hT : Tabs w) (h : figureheadlaw12_DigitJoins.f k a0 a1 a2 a3 = some r) :
    Calls Tryd.prog 12 #[.int .i32 a0, .string a1, .string a2, .int .i32 a3] w fun e w' => e = .returned (.bool r) ∧ Below w.heap.size w w' := by
  have HB := Aside0.mk (Below.refl w.heap.size w)
  have HT := Aside0.mk hT
  clear hT
  have H : (if a0 < 0 then (figureheadlaw12_DigitJoins.j0 k a0 a1 a2 a3 true) else ((figureheadref11_Zero.f k a0).bind fun t265 => (if t265 = true then ((figureheadref05_Digits.f k a1).bind fun t266 => (if t266 = true then ((figureheadref05_Digits.f k a2).bind fun t267 => (if t267 = true then (if (wrap64 ((a1.size : Int) + (a2.size : Int))) > 200 then (figureheadlaw12_DigitJoins.j0 k a0 a1 a2 a3 true) else ((figureheadref11_Scalar.f a3).bind fun t268 => (if t268 = true then (if a3 ≥ a0 then (figureheadlaw12_DigitJoins.j0 k a0 a1 a2 a3 (decide ((wrap32 (a3 - a0)) < 10))) else (figureheadlaw12_DigitJoins.j0 k a0 a1 a2 a3 false)) else (figureheadlaw12_DigitJoins.j0 k a0 a1 a2 a3 true)))) else (figureheadlaw12_DigitJoins.j0 k a0 a1 a2 a3 true))) else (figureheadlaw12_DigitJoins.j0 k a0 a1 a2 a3 true))) else (figureheadlaw12_DigitJoins.j0 k a0 a1 a2 a3 true)))) = some r := h
  clear h
  have HC5 := Aside0.mk H
  clear H
  go_enter Tryd.func12, Tryd.ntmps12
  go_upto_region 1 with (fail)
  go_cut [56] (fun v56 wc => ∃ (kq : Nat) (x56_4 : Bool), v56 = .bool x56_4 ∧ Aside0 (figureheadlaw12_DigitJoins.j0 kq a0 a1 a2 a3 x56_4 = some r) ∧ Aside0 (kq ≤ k) ∧ Aside0 (Below w.heap.size w wc))
  case first =>
    have H := HC5.out
    clear HC5
    by_cases c6 : a0 < 0
    · rw [if_pos c6] at H
      have c6b0 : decide (a0 < 0) = true := decide_eq_true c6
      clear c6
      (first | rw [c6b0] | (simp only [i64_w, i32_w]; rw [c6b0]) | skip)
      have H' := Aside0.mk H
      clear H
      go_wp2
      go_meet
      case rel => exact ⟨_, (true), (by first | rfl | (simp; done) | (simp [*]; done) | (simp [bneNil_]; done)), H', ⟨by first | omega | exact Nat.le_refl _⟩, ⟨by repeat (first | (with_reducible first | exact HB.out | apply below_alloc | apply pw_below_drewN | apply below_drew1) | exact HB.out)⟩⟩
    · rw [if_neg c6] at H
      have c6b0 : decide (a0 < 0) = false := decide_eq_false c6
      clear c6
      (first | rw [c6b0] | (simp only [i64_w, i32_w]; rw [c6b0]) | skip)
      replace H := Option.bind_eq_some_iff.mp H
      obtain ⟨t265, A70, H⟩ := H
      replace H : (if t265 = true then ((figureheadref05_Digits.f k a1).bind fun t266 => (if t266 = true then ((figureheadref05_Digits.f k a2).bind fun t267 => (if t267 = true then (if (wrap64 ((a1.size : Int) + (a2.size : Int))) > 200 then (figureheadlaw12_DigitJoins.j0 k a0 a1 a2 a3 true) else ((figureheadref11_Scalar.f a3).bind fun t268 => (if t268 = true then (if a3 ≥ a0 then (figureheadlaw12_DigitJoins.j0 k a0 a1 a2 a3 (decide ((wrap32 (a3 - a0)) < 10))) else (figureheadlaw12_DigitJoins.j0 k a0 a1 a2 a3 false)) else (figureheadlaw12_DigitJoins.j0 k a0 a1 a2 a3 true)))) else (figureheadlaw12_DigitJoins.j0 k a0 a1 a2 a3 true))) else (figureheadlaw12_DigitJoins.j0 k a0 a1 a2 a3 true))) else (figureheadlaw12_DigitJoins.j0 k a0 a1 a2 a3 true)) = some r := H
      have A7 := Aside0.mk A70
      clear A70
      by_cases c8 : t265 = true
      · subst c8
        have H1 : ((figureheadref05_Digits.f k a1).bind fun t266 => (if t266 = true then ((figureheadref05_Digits.f k a2).bind fun t267 => (if t267 = true then (if (wrap64 ((a1.size : Int) + (a2.size : Int))) > 200 then (figureheadlaw12_DigitJoins.j0 k a0 a1 a2 a3 true) else ((figureheadref11_Scalar.f a3).bind fun t268 => (if t268 = true then (if a3 ≥ a0 then (figureheadlaw12_DigitJoins.j0 k a0 a1 a2 a3 (decide ((wrap32 (a3 - a0)) < 10))) else (figureheadlaw12_DigitJoins.j0 k a0 a1 a2 a3 false)) else (figureheadlaw12_DigitJoins.j0 k a0 a1 a2 a3 true)))) else (figureheadlaw12_DigitJoins.j0 k a0 a1 a2 a3 true))) else (figureheadlaw12_DigitJoins.j0 k a0 a1 a2 a3 true))) = some r := by rw [if_pos rfl] at H; exact H
        clear H
        have H := H1
        clear H1
        replace H := Option.bind_eq_some_iff.mp H
        obtain ⟨t266, A90, H⟩ := H
        replace H : (if t266 = true then ((figureheadref05_Digits.f k a2).bind fun t267 => (if t267 = true then (if (wrap64 ((a1.size : Int) + (a2.size : Int))) > 200 then (figureheadlaw12_DigitJoins.j0 k a0 a1 a2 a3 true) else ((figureheadref11_Scalar.f a3).bind fun t268 => (if t268 = true then (if a3 ≥ a0 then (figureheadlaw12_DigitJoins.j0 k a0 a1 a2 a3 (decide ((wrap32 (a3 - a0)) < 10))) else (figureheadlaw12_DigitJoins.j0 k a0 a1 a2 a3 false)) else (figureheadlaw12_DigitJoins.j0 k a0 a1 a2 a3 true)))) else (figureheadlaw12_DigitJoins.j0 k a0 a1 a2 a3 true))) else (figureheadlaw12_DigitJoins.j0 k a0 a1 a2 a3 true)) = some r := H
        have A9 := Aside0.mk A90
        clear A90
        by_cases c10 : t266 = true
        · subst c10
          have H1 : ((figureheadref05_Digits.f k a2).bind fun t267 => (if t267 = true then (if (wrap64 ((a1.size : Int) + (a2.size : Int))) > 200 then (figureheadlaw12_DigitJoins.j0 k a0 a1 a2 a3 true) else ((figureheadref11_Scalar.f a3).bind fun t268 => (if t268 = true then (if a3 ≥ a0 then (figureheadlaw12_DigitJoins.j0 k a0 a1 a2 a3 (decide ((wrap32 (a3 - a0)) < 10))) else (figureheadlaw12_DigitJoins.j0 k a0 a1 a2 a3 false)) else (figureheadlaw12_DigitJoins.j0 k a0 a1 a2 a3 true)))) else (figureheadlaw12_DigitJoins.j0 k a0 a1 a2 a3 true))) = some r := by rw [if_pos rfl] at H; exact H
          clear H
          have H := H1
          clear H1
          replace H := Option.bind_eq_some_iff.mp H
          obtain ⟨t267, A110, H⟩ := H
          replace H : (if t267 = true then (if (wrap64 ((a1.size : Int) + (a2.size : Int))) > 200 then (figureheadlaw12_DigitJoins.j0 k a0 a1 a2 a3 true) else ((figureheadref11_Scalar.f a3).bind fun t268 => (if t268 = true then (if a3 ≥ a0 then (figureheadlaw12_DigitJoins.j0 k a0 a1 a2 a3 (decide ((wrap32 (a3 - a0)) < 10))) else (figureheadlaw12_DigitJoins.j0 k a0 a1 a2 a3 false)) else (figureheadlaw12_DigitJoins.j0 k a0 a1 a2 a3 true)))) else (figureheadlaw12_DigitJoins.j0 k a0 a1 a2 a3 true)) = some r := H
          have A11 := Aside0.mk A110
          clear A110
          by_cases c12 : t267 = true
          · subst c12
            have H1 : (if (wrap64 ((a1.size : Int) + (a2.size : Int))) > 200 then (figureheadlaw12_DigitJoins.j0 k a0 a1 a2 a3 true) else ((figureheadref11_Scalar.f a3).bind fun t268 => (if t268 = true then (if a3 ≥ a0 then (figureheadlaw12_DigitJoins.j0 k a0 a1 a2 a3 (decide ((wrap32 (a3 - a0)) < 10))) else (figureheadlaw12_DigitJoins.j0 k a0 a1 a2 a3 false)) else (figureheadlaw12_DigitJoins.j0 k a0 a1 a2 a3 true)))) = some r := by rw [if_pos rfl] at H; exact H
            clear H
            have H := H1
            clear H1
            by_cases c13 : (wrap64 ((a1.size : Int) + (a2.size : Int))) > 200
            · rw [if_pos c13] at H
              have c13b0 : decide (200 < (wrap64 ((a1.size : Int) + (a2.size : Int)))) = true := decide_eq_true c13
              clear c13
              have H' := Aside0.mk H
              clear H
              go_wp2_with (first | (go_at_call 24; (with_reducible refine (figureheadref11_Zero.calls k a0 true _ A7.out).mono ?_); rintro e w' ⟨rfl, ⟨nd, rfl⟩⟩) | (go_at_call 29; (with_reducible refine (figureheadref05_Digits.calls k a1 true _ A9.out).mono ?_); rintro e w' ⟨rfl, ⟨nd, rfl⟩⟩) | (go_at_call 29; (with_reducible refine (figureheadref05_Digits.calls k a2 true _ A11.out).mono ?_); rintro e w' ⟨rfl, ⟨nd, rfl⟩⟩))
              go_meet
              case rel => exact ⟨_, (true), (by first | rfl | (simp; done) | (simp [*]; done) | (simp [bneNil_]; done)), H', ⟨by first | omega | exact Nat.le_refl _⟩, ⟨by repeat (first | (with_reducible first | exact HB.out | apply below_alloc | apply pw_below_drewN | apply below_drew1) | exact HB.out)⟩⟩
            · rw [if_neg c13] at H
              have c13b0 : decide (200 < (wrap64 ((a1.size : Int) + (a2.size : Int)))) = false := decide_eq_false c13
              clear c13
              replace H := Option.bind_eq_some_iff.mp H
              obtain ⟨t268, A140, H⟩ := H
              replace H : (if t268 = true then (if a3 ≥ a0 then (figureheadlaw12_DigitJoins.j0 k a0 a1 a2 a3 (decide ((wrap32 (a3 - a0)) < 10))) else (figureheadlaw12_DigitJoins.j0 k a0 a1 a2 a3 false)) else (figureheadlaw12_DigitJoins.j0 k a0 a1 a2 a3 true)) = some r := H
              have A14 := Aside0.mk A140
              clear A140
              by_cases c15 : t268 = true
              · subst c15
                have H1 : (if a3 ≥ a0 then (figureheadlaw12_DigitJoins.j0 k a0 a1 a2 a3 (decide ((wrap32 (a3 - a0)) < 10))) else (figureheadlaw12_DigitJoins.j0 k a0 a1 a2 a3 false)) = some r := by rw [if_pos rfl] at H; exact H
                clear H
                have H := H1
                clear H1
                by_cases c16 : a3 ≥ a0
                · rw [if_pos c16] at H
                  have c16b0 : decide (a0 ≤ a3) = true := decide_eq_true c16
                  clear c16
                  have H' := Aside0.mk H
                  clear H
                  go_wp2_with (first | (go_at_call 24; (with_reducible refine (figureheadref11_Zero.calls k a0 true _ A7.out).mono ?_); rintro e w' ⟨rfl, ⟨nd, rfl⟩⟩) | (go_at_call 29; (with_reducible refine (figureheadref05_Digits.calls k a1 true _ A9.out).mono ?_); rintro e w' ⟨rfl, ⟨nd, rfl⟩⟩) | (go_at_call 29; (with_reducible refine (figureheadref05_Digits.calls k a2 true _ A11.out).mono ?_); rintro e w' ⟨rfl, ⟨nd, rfl⟩⟩) | (go_at_call 20; (with_reducible refine (figureheadref11_Scalar.calls a3 true _ A14.out).mono ?_); rintro e w' ⟨rfl, ⟨nd, rfl⟩⟩))
                  go_meet
                  case rel => exact ⟨_, (decide ((wrap32 (a3 - a0)) < 10)), (by first | rfl | (simp; done) | (simp [*]; done) | (simp [bneNil_]; done)), H', ⟨by first | omega | exact Nat.le_refl _⟩, ⟨by repeat (first | (with_reducible first | exact HB.out | apply below_alloc | apply pw_below_drewN | apply below_drew1) | exact HB.out)⟩⟩
                · rw [if_neg c16] at H
                  have c16b0 : decide (a0 ≤ a3) = false := decide_eq_false c16
                  clear c16
                  have H' := Aside0.mk H
                  clear H
                  go_wp2_with (first | (go_at_call 24; (with_reducible refine (figureheadref11_Zero.calls k a0 true _ A7.out).mono ?_); rintro e w' ⟨rfl, ⟨nd, rfl⟩⟩) | (go_at_call 29; (with_reducible refine (figureheadref05_Digits.calls k a1 true _ A9.out).mono ?_); rintro e w' ⟨rfl, ⟨nd, rfl⟩⟩) | (go_at_call 29; (with_reducible refine (figureheadref05_Digits.calls k a2 true _ A11.out).mono ?_); rintro e w' ⟨rfl, ⟨nd, rfl⟩⟩) | (go_at_call 20; (with_reducible refine (figureheadref11_Scalar.calls a3 true _ A14.out).mono ?_); rintro e w' ⟨rfl, ⟨nd, rfl⟩⟩))
                  go_meet
                  case rel => exact ⟨_, (false), (by first | rfl | (simp; done) | (simp [*]; done) | (simp [bneNil_]; done)), H', ⟨by first | omega | exact Nat.le_refl _⟩, ⟨by repeat (first | (with_reducible first | exact HB.out | apply below_alloc | apply pw_below_drewN | apply below_drew1) | exact HB.out)⟩⟩
              · replace c15 := Bool.eq_false_iff.mpr c15
                subst c15
                have H1 : (figureheadlaw12_DigitJoins.j0 k a0 a1 a2 a3 true) = some r := by rw [if_neg (show ¬ (false = true) by decide)] at H; exact H
                clear H
                have H := H1
                clear H1
                have H' := Aside0.mk H
                clear H
                go_wp2_with (first | (go_at_call 24; (with_reducible refine (figureheadref11_Zero.calls k a0 true _ A7.out).mono ?_); rintro e w' ⟨rfl, ⟨nd, rfl⟩⟩) | (go_at_call 29; (with_reducible refine (figureheadref05_Digits.calls k a1 true _ A9.out).mono ?_); rintro e w' ⟨rfl, ⟨nd, rfl⟩⟩) | (go_at_call 29; (with_reducible refine (figureheadref05_Digits.calls k a2 true _ A11.out).mono ?_); rintro e w' ⟨rfl, ⟨nd, rfl⟩⟩) | (go_at_call 20; (with_reducible refine (figureheadref11_Scalar.calls a3 false _ A14.out).mono ?_); rintro e w' ⟨rfl, ⟨nd, rfl⟩⟩))
                go_meet
                case rel => exact ⟨_, (true), (by first | rfl | (simp; done) | (simp [*]; done) | (simp [bneNil_]; done)), H', ⟨by first | omega | exact Nat.le_refl _⟩, ⟨by repeat (first | (with_reducible first | exact HB.out | apply below_alloc | apply pw_below_drewN | apply below_drew1) | exact HB.out)⟩⟩
          · replace c12 := Bool.eq_false_iff.mpr c12
            subst c12
            have H1 : (figureheadlaw12_DigitJoins.j0 k a0 a1 a2 a3 true) = some r := by rw [if_neg (show ¬ (false = true) by decide)] at H; exact H
            clear H
            have H := H1
            clear H1
            have H' := Aside0.mk H
            clear H
            go_wp2_with (first | (go_at_call 24; (with_reducible refine (figureheadref11_Zero.calls k a0 true _ A7.out).mono ?_); rintro e w' ⟨rfl, ⟨nd, rfl⟩⟩) | (go_at_call 29; (with_reducible refine (figureheadref05_Digits.calls k a1 true _ A9.out).mono ?_); rintro e w' ⟨rfl, ⟨nd, rfl⟩⟩) | (go_at_call 29; (with_reducible refine (figureheadref05_Digits.calls k a2 false _ A11.out).mono ?_); rintro e w' ⟨rfl, ⟨nd, rfl⟩⟩))
            go_meet
            case rel => exact ⟨_, (true), (by first | rfl | (simp; done) | (simp [*]; done) | (simp [bneNil_]; done)), H', ⟨by first | omega | exact Nat.le_refl _⟩, ⟨by repeat (first | (with_reducible first | exact HB.out | apply below_alloc | apply pw_below_drewN | apply below_drew1) | exact HB.out)⟩⟩
        · replace c10 := Bool.eq_false_iff.mpr c10
          subst c10
          have H1 : (figureheadlaw12_DigitJoins.j0 k a0 a1 a2 a3 true) = some r := by rw [if_neg (show ¬ (false = true) by decide)] at H; exact H
          clear H
          have H := H1
          clear H1
          have H' := Aside0.mk H
          clear H
          go_wp2_with (first | (go_at_call 24; (with_reducible refine (figureheadref11_Zero.calls k a0 true _ A7.out).mono ?_); rintro e w' ⟨rfl, ⟨nd, rfl⟩⟩) | (go_at_call 29; (with_reducible refine (figureheadref05_Digits.calls k a1 false _ A9.out).mono ?_); rintro e w' ⟨rfl, ⟨nd, rfl⟩⟩))
          go_meet
          case rel => exact ⟨_, (true), (by first | rfl | (simp; done) | (simp [*]; done) | (simp [bneNil_]; done)), H', ⟨by first | omega | exact Nat.le_refl _⟩, ⟨by repeat (first | (with_reducible first | exact HB.out | apply below_alloc | apply pw_below_drewN | apply below_drew1) | exact HB.out)⟩⟩
      · replace c8 := Bool.eq_false_iff.mpr c8
        subst c8
        have H1 : (figureheadlaw12_DigitJoins.j0 k a0 a1 a2 a3 true) = some r := by rw [if_neg (show ¬ (false = true) by decide)] at H; exact H
        clear H
        have H := H1
        clear H1
        have H' := Aside0.mk H
        clear H
        go_wp2_with (first | (go_at_call 24; (with_reducible refine (figureheadref11_Zero.calls k a0 false _ A7.out).mono ?_); rintro e w' ⟨rfl, ⟨nd, rfl⟩⟩))
        go_meet
        case rel => exact ⟨_, (true), (by first | rfl | (simp; done) | (simp [*]; done) | (simp [bneNil_]; done)), H', ⟨by first | omega | exact Nat.le_refl _⟩, ⟨by repeat (first | (with_reducible first | exact HB.out | apply below_alloc | apply pw_below_drewN | apply below_drew1) | exact HB.out)⟩⟩
  case rest =>
    clear HC5
    try clear c1
    try clear p2
    try clear p3
    try clear c6
    try clear c6b0
    try clear p6
    try clear c8
    try clear c10
    try clear c12
    try clear c13
    try clear c13b0
    try clear c15
    try clear c16
    try clear c16b0
    obtain ⟨kq, x56_4, rfl, HA, HJ4, HB⟩ := hcut
    cases kq with
    | zero => exact absurd HA.out (by simp [figureheadlaw12_DigitJoins.j0])
    | succ kj4 =>
      have H := HA.out
      clear HA
      simp only [figureheadlaw12_DigitJoins.j0] at H
      by_cases c17 : x56_4 = true
      · subst c17
        have H1 : ((figureheadlaw12_answers.f kj4).bind fun t269 => (some t269)) = some r := by rw [if_pos rfl] at H; exact H
        clear H
        have H := H1
        clear H1
        replace H := Option.bind_eq_some_iff.mp H
        obtain ⟨t269, A180, H⟩ := H
        replace H : (some t269) = some r := H
        have A18 := Aside0.mk A180
        clear A180
        obtain rfl := Option.some.inj H
        go_wp2_with (first | ((with_reducible refine gate_callee (f := 25) rfl ?_); refine goesL_ (some 57) rfl rfl Tryd.func25 (by kernel_rfl) rfl #[] rfl (by (try simp only [List.map_toArray, List.map_cons, List.map_nil]); first | done | rfl | (simp only [List.length_drop, List.length_take]; rfl)) ?_; (with_reducible refine (figureheadlaw12_answers.calls kj4  t269 _ ?side1 A18.out).mono ?_); (case side1 => exact Tabs_below HT.out (by repeat (first | (with_reducible first | exact HB.out | apply below_alloc | apply pw_below_drewN | apply below_drew1) | exact HB.out))); rintro e w19 ⟨rfl, hb⟩; refine ⟨_, rfl, ?_⟩; have n0_ := Aside0.mk (below_step (by repeat (first | (with_reducible first | exact HB.out | apply below_alloc | apply pw_below_drewN | apply below_drew1) | exact HB.out)) hb); clear HB; have HB := n0_; clear n0_; (try clear hb); (try clear hb2); (try clear hk); (try clear hi)))
        go_ret
        exact ⟨by first | rfl | (simp [errW_none, errW_some] <;> rfl) | (simp [*, errW_none, errW_some] <;> rfl), by repeat (first | (with_reducible first | exact HB.out | apply below_alloc | apply pw_below_drewN | apply below_drew1) | exact HB.out)⟩
      · replace c17 := Bool.eq_false_iff.mpr c17
        subst c17
        have H1 : ((digit_Put.f a0 a1).bind fun t270 => ((digit_Put.f a0 a2).bind fun t271 => ((figureheadref11_Bytes.f a3).bind fun t272 => (if t270.size + (strOfNums t272).size ≤ 9223372036854775807 then (if (t270 ++ (strOfNums t272)).size + t271.size ≤ 9223372036854775807 then ((digit_Get.f a0 ((t270 ++ (strOfNums t272)) ++ t271)).bind fun bt275 => (if t270.size + t271.size ≤ 9223372036854775807 then ((digit_Get.f a0 (t270 ++ t271)).bind fun bt277 => ((figureheadlaw12_answers.f kj4).bind fun t279 => (if t279 = true then (if a1.size + a2.size ≤ 9223372036854775807 then ((digit_Put.f a0 (a1 ++ a2)).bind fun t280 => (if (t270 ++ t271).toList = t280.toList then (if bt277.2 = true then (if bt277.1.toList = (a1 ++ a2).toList then (if bt275.2 = true then (some false) else ((digit_Run.f a0 ((t270 ++ (strOfNums t272)) ++ t271)).bind fun t281 => (some (t281 == (t270.size : Int))))) else (some false)) else (some false)) else (some false))) else (none)) else (some false)))) else (none))) else (none)) else (none))))) = some r := by rw [if_neg (show ¬ (false = true) by decide)] at H; exact H
        clear H
        have H := H1
        clear H1
        replace H := Option.bind_eq_some_iff.mp H
        obtain ⟨t270, A200, H⟩ := H
        replace H : ((digit_Put.f a0 a2).bind fun t271 => ((figureheadref11_Bytes.f a3).bind fun t272 => (if t270.size + (strOfNums t272).size ≤ 9223372036854775807 then (if (t270 ++ (strOfNums t272)).size + t271.size ≤ 9223372036854775807 then ((digit_Get.f a0 ((t270 ++ (strOfNums t272)) ++ t271)).bind fun bt275 => (if t270.size + t271.size ≤ 9223372036854775807 then ((digit_Get.f a0 (t270 ++ t271)).bind fun bt277 => ((figureheadlaw12_answers.f kj4).bind fun t279 => (if t279 = true then (if a1.size + a2.size ≤ 9223372036854775807 then ((digit_Put.f a0 (a1 ++ a2)).bind fun t280 => (if (t270 ++ t271).toList = t280.toList then (if bt277.2 = true then (if bt277.1.toList = (a1 ++ a2).toList then (if bt275.2 = true then (some false) else ((digit_Run.f a0 ((t270 ++ (strOfNums t272)) ++ t271)).bind fun t281 => (some (t281 == (t270.size : Int))))) else (some false)) else (some false)) else (some false))) else (none)) else (some false)))) else (none))) else (none)) else (none)))) = some r := H
        have A20 := Aside0.mk A200
        clear A200
        replace H := Option.bind_eq_some_iff.mp H
        obtain ⟨t271, A210, H⟩ := H
        replace H : ((figureheadref11_Bytes.f a3).bind fun t272 => (if t270.size + (strOfNums t272).size ≤ 9223372036854775807 then (if (t270 ++ (strOfNums t272)).size + t271.size ≤ 9223372036854775807 then ((digit_Get.f a0 ((t270 ++ (strOfNums t272)) ++ t271)).bind fun bt275 => (if t270.size + t271.size ≤ 9223372036854775807 then ((digit_Get.f a0 (t270 ++ t271)).bind fun bt277 => ((figureheadlaw12_answers.f kj4).bind fun t279 => (if t279 = true then (if a1.size + a2.size ≤ 9223372036854775807 then ((digit_Put.f a0 (a1 ++ a2)).bind fun t280 => (if (t270 ++ t271).toList = t280.toList then (if bt277.2 = true then (if bt277.1.toList = (a1 ++ a2).toList then (if bt275.2 = true then (some false) else ((digit_Run.f a0 ((t270 ++ (strOfNums t272)) ++ t271)).bind fun t281 => (some (t281 == (t270.size : Int))))) else (some false)) else (some false)) else (some false))) else (none)) else (some false)))) else (none))) else (none)) else (none))) = some r := H
        have A21 := Aside0.mk A210
        clear A210
        replace H := Option.bind_eq_some_iff.mp H
        obtain ⟨t272, A220, H⟩ := H
        replace H : (if t270.size + (strOfNums t272).size ≤ 9223372036854775807 then (if (t270 ++ (strOfNums t272)).size + t271.size ≤ 9223372036854775807 then ((digit_Get.f a0 ((t270 ++ (strOfNums t272)) ++ t271)).bind fun bt275 => (if t270.size + t271.size ≤ 9223372036854775807 then ((digit_Get.f a0 (t270 ++ t271)).bind fun bt277 => ((figureheadlaw12_answers.f kj4).bind fun t279 => (if t279 = true then (if a1.size + a2.size ≤ 9223372036854775807 then ((digit_Put.f a0 (a1 ++ a2)).bind fun t280 => (if (t270 ++ t271).toList = t280.toList then (if bt277.2 = true then (if bt277.1.toList = (a1 ++ a2).toList then (if bt275.2 = true then (some false) else ((digit_Run.f a0 ((t270 ++ (strOfNums t272)) ++ t271)).bind fun t281 => (some (t281 == (t270.size : Int))))) else (some false)) else (some false)) else (some false))) else (none)) else (some false)))) else (none))) else (none)) else (none)) = some r := H
        have A22 := Aside0.mk A220
        clear A220
        by_cases c23 : t270.size + (strOfNums t272).size ≤ 9223372036854775807
        · rw [if_pos c23] at H
          have c23b0 := eq_true c23
          have c23b1 : decide (t270.size + (strOfNums t272).size ≤ 9223372036854775807) = true := decide_eq_true c23
          try have c23b2 : (9223372036854775807 < t270.size + (strOfNums t272).size) = False := eq_false (Nat.not_lt.2 c23)
          by_cases c24 : (t270 ++ (strOfNums t272)).size + t271.size ≤ 9223372036854775807
          · rw [if_pos c24] at H
            have c24b0 := eq_true c24
            have c24b1 : decide ((t270 ++ (strOfNums t272)).size + t271.size ≤ 9223372036854775807) = true := decide_eq_true c24
            try have c24b2 : (9223372036854775807 < (t270 ++ (strOfNums t272)).size + t271.size) = False := eq_false (Nat.not_lt.2 c24)
            replace H := Option.bind_eq_some_iff.mp H
            obtain ⟨⟨t275, t276⟩, A250, H⟩ := H
            replace H : (if t270.size + t271.size ≤ 9223372036854775807 then ((digit_Get.f a0 (t270 ++ t271)).bind fun bt277 => ((figureheadlaw12_answers.f kj4).bind fun t279 => (if t279 = true then (if a1.size + a2.size ≤ 9223372036854775807 then ((digit_Put.f a0 (a1 ++ a2)).bind fun t280 => (if (t270 ++ t271).toList = t280.toList then (if bt277.2 = true then (if bt277.1.toList = (a1 ++ a2).toList then (if t276 = true then (some false) else ((digit_Run.f a0 ((t270 ++ (strOfNums t272)) ++ t271)).bind fun t281 => (some (t281 == (t270.size : Int))))) else (some false)) else (some false)) else (some false))) else (none)) else (some false)))) else (none)) = some r := H
            have A25 := Aside0.mk A250
            clear A250
            by_cases c26 : t270.size + t271.size ≤ 9223372036854775807
            · rw [if_pos c26] at H
              have c26b0 := eq_true c26
              have c26b1 : decide (t270.size + t271.size ≤ 9223372036854775807) = true := decide_eq_true c26
              try have c26b2 : (9223372036854775807 < t270.size + t271.size) = False := eq_false (Nat.not_lt.2 c26)
              replace H := Option.bind_eq_some_iff.mp H
              obtain ⟨⟨t277, t278⟩, A270, H⟩ := H
              replace H : ((figureheadlaw12_answers.f kj4).bind fun t279 => (if t279 = true then (if a1.size + a2.size ≤ 9223372036854775807 then ((digit_Put.f a0 (a1 ++ a2)).bind fun t280 => (if (t270 ++ t271).toList = t280.toList then (if t278 = true then (if t277.toList = (a1 ++ a2).toList then (if t276 = true then (some false) else ((digit_Run.f a0 ((t270 ++ (strOfNums t272)) ++ t271)).bind fun t281 => (some (t281 == (t270.size : Int))))) else (some false)) else (some false)) else (some false))) else (none)) else (some false))) = some r := H
              have A27 := Aside0.mk A270
              clear A270
              replace H := Option.bind_eq_some_iff.mp H
              obtain ⟨t279, A280, H⟩ := H
              replace H : (if t279 = true then (if a1.size + a2.size ≤ 9223372036854775807 then ((digit_Put.f a0 (a1 ++ a2)).bind fun t280 => (if (t270 ++ t271).toList = t280.toList then (if t278 = true then (if t277.toList = (a1 ++ a2).toList then (if t276 = true then (some false) else ((digit_Run.f a0 ((t270 ++ (strOfNums t272)) ++ t271)).bind fun t281 => (some (t281 == (t270.size : Int))))) else (some false)) else (some false)) else (some false))) else (none)) else (some false)) = some r := H
              have A28 := Aside0.mk A280
              clear A280
              by_cases c29 : t279 = true
              · subst c29
                have H1 : (if a1.size + a2.size ≤ 9223372036854775807 then ((digit_Put.f a0 (a1 ++ a2)).bind fun t280 => (if (t270 ++ t271).toList = t280.toList then (if t278 = true then (if t277.toList = (a1 ++ a2).toList then (if t276 = true then (some false) else ((digit_Run.f a0 ((t270 ++ (strOfNums t272)) ++ t271)).bind fun t281 => (some (t281 == (t270.size : Int))))) else (some false)) else (some false)) else (some false))) else (none)) = some r := by rw [if_pos rfl] at H; exact H
                clear H
                have H := H1
                clear H1
                by_cases c30 : a1.size + a2.size ≤ 9223372036854775807
                · rw [if_pos c30] at H
                  have c30b0 := eq_true c30
                  have c30b1 : decide (a1.size + a2.size ≤ 9223372036854775807) = true := decide_eq_true c30
                  try have c30b2 : (9223372036854775807 < a1.size + a2.size) = False := eq_false (Nat.not_lt.2 c30)
                  replace H := Option.bind_eq_some_iff.mp H
                  obtain ⟨t280, A310, H⟩ := H
                  replace H : (if (t270 ++ t271).toList = t280.toList then (if t278 = true then (if t277.toList = (a1 ++ a2).toList then (if t276 = true then (some false) else ((digit_Run.f a0 ((t270 ++ (strOfNums t272)) ++ t271)).bind fun t281 => (some (t281 == (t270.size : Int))))) else (some false)) else (some false)) else (some false)) = some r := H
                  have A31 := Aside0.mk A310
                  clear A310
                  by_cases c32 : (t270 ++ t271).toList = t280.toList
                  · rw [if_pos c32] at H
                    have c32b0 : ((t270 ++ t271).toList == t280.toList) = true := beq_iff_eq.mpr c32
                    have c32b1 : ((t270 ++ t271).toList != t280.toList) = false := bne_eq_false_iff_eq.mpr c32
                    clear c32
                    by_cases c33 : t278 = true
                    · subst c33
                      have H1 : (if t277.toList = (a1 ++ a2).toList then (if t276 = true then (some false) else ((digit_Run.f a0 ((t270 ++ (strOfNums t272)) ++ t271)).bind fun t281 => (some (t281 == (t270.size : Int))))) else (some false)) = some r := by rw [if_pos rfl] at H; exact H
                      clear H
                      have H := H1
                      clear H1
                      by_cases c34 : t277.toList = (a1 ++ a2).toList
                      · rw [if_pos c34] at H
                        have c34b0 : (t277.toList == (a1 ++ a2).toList) = true := beq_iff_eq.mpr c34
                        have c34b1 : (t277.toList != (a1 ++ a2).toList) = false := bne_eq_false_iff_eq.mpr c34
                        clear c34
                        by_cases c35 : t276 = true
                        · subst c35
                          have H1 : (some false) = some r := by rw [if_pos rfl] at H; exact H
                          clear H
                          have H := H1
                          clear H1
                          obtain rfl := Option.some.inj H
                          go_wp2_with (first | ((with_reducible refine gate_callee (f := 28) rfl ?_); refine goesL_ (some 60) rfl rfl Tryd.func28 (by kernel_rfl) rfl #[.int .i32 a0, .string a1] rfl (by (try simp only [List.map_toArray, List.map_cons, List.map_nil]); first | done | rfl | (simp only [List.length_drop, List.length_take]; rfl)) ?_; (with_reducible refine (digit_Put.calls a0 a1 t270 _ A20.out).mono ?_); rintro e w36 ⟨rfl, hb⟩; refine ⟨_, rfl, ?_⟩; have n0_ := Aside0.mk (below_step (by repeat (first | (with_reducible first | exact HB.out | apply below_alloc | apply pw_below_drewN | apply below_drew1) | exact HB.out)) hb); clear HB; have HB := n0_; clear n0_; (try clear hb); (try clear hb2); (try clear hk); (try clear hi)) | ((with_reducible refine gate_callee (f := 28) rfl ?_); refine goesL_ (some 63) rfl rfl Tryd.func28 (by kernel_rfl) rfl #[.int .i32 a0, .string a2] rfl (by (try simp only [List.map_toArray, List.map_cons, List.map_nil]); first | done | rfl | (simp only [List.length_drop, List.length_take]; rfl)) ?_; (with_reducible refine (digit_Put.calls a0 a2 t271 _ A21.out).mono ?_); rintro e w37 ⟨rfl, hb⟩; refine ⟨_, rfl, ?_⟩; have n0_ := Aside0.mk (below_step (by repeat (first | (with_reducible first | exact HB.out | apply below_alloc | apply pw_below_drewN | apply below_drew1) | exact HB.out)) hb); clear HB; have HB := n0_; clear n0_; (try clear hb); (try clear hb2); (try clear hk); (try clear hi)) | ((with_reducible refine gate_callee (f := 23) rfl ?_); refine goesL_ (some 66) rfl rfl Tryd.func23 (by kernel_rfl) rfl #[.int .i32 a3] rfl (by (try simp only [List.map_toArray, List.map_cons, List.map_nil]); first | done | rfl | (simp only [List.length_drop, List.length_take]; rfl)) ?_; (with_reducible refine (figureheadref11_Bytes.calls a3 t272 _ A22.out).mono ?_); rintro e w38 ⟨v273, rfl, ho0, hb⟩; refine ⟨_, rfl, ?_⟩; have n0_ := Aside0.mk (Kd.R_lower ho0 (below_size (by repeat (first | (with_reducible first | exact HB.out | apply below_alloc | apply pw_below_drewN | apply below_drew1) | exact HB.out)))); have n1_ := Aside0.mk (below_step (by repeat (first | (with_reducible first | exact HB.out | apply below_alloc | apply pw_below_drewN | apply below_drew1) | exact HB.out)) hb); clear HB; have HO274 := n0_; have HB := n1_; clear n0_ n1_; (try clear hb); (try clear hb2); (try clear hk); (try clear hi); (try clear ho0); have hcv39 := own_string (P := Tryd.prog) Tryd.underlying38 Tryd.underlying5 Tryd.underlying9 (Kd.own_of_R HO274.out)) | ((with_reducible refine gate_callee (f := 30) rfl ?_); refine goesL_ (some 74) rfl rfl Tryd.func30 (by kernel_rfl) rfl #[.int .i32 a0, .string ((t270 ++ (strOfNums t272)) ++ t271)] rfl (by (try simp only [List.map_toArray, List.map_cons, List.map_nil]); first | done | rfl | (simp only [List.length_drop, List.length_take]; rfl)) ?_; (with_reducible refine (digit_Get.calls a0 ((t270 ++ (strOfNums t272)) ++ t271) t275 true _ ?side1 A25.out).mono ?_); (case side1 => exact Tabs_below HT.out (by repeat (first | (with_reducible first | exact HB.out | apply below_alloc | apply pw_below_drewN | apply below_drew1) | exact HB.out))); rintro e w40 ⟨rfl, hb⟩; refine ⟨_, rfl, ?_⟩; have n0_ := Aside0.mk (Kd.R_below (by (with_reducible repeat (first | apply Kd.R_alloc | apply Kd.R_drewN | apply Kd.R_drew)); exact HO274.out) hb); have n1_ := Aside0.mk (below_step (by repeat (first | (with_reducible first | exact HB.out | apply below_alloc | apply pw_below_drewN | apply below_drew1) | exact HB.out)) hb); clear HO274; clear HB; have HO274 := n0_; have HB := n1_; clear n0_ n1_; (try clear hb); (try clear hb2); (try clear hk); (try clear hi)) | ((with_reducible refine gate_callee (f := 30) rfl ?_); refine goesL_ (some 82) rfl rfl Tryd.func30 (by kernel_rfl) rfl #[.int .i32 a0, .string (t270 ++ t271)] rfl (by (try simp only [List.map_toArray, List.map_cons, List.map_nil]); first | done | rfl | (simp only [List.length_drop, List.length_take]; rfl)) ?_; (with_reducible refine (digit_Get.calls a0 (t270 ++ t271) t277 true _ ?side1 A27.out).mono ?_); (case side1 => exact Tabs_below HT.out (by repeat (first | (with_reducible first | exact HB.out | apply below_alloc | apply pw_below_drewN | apply below_drew1) | exact HB.out))); rintro e w41 ⟨rfl, hb⟩; refine ⟨_, rfl, ?_⟩; have n0_ := Aside0.mk (Kd.R_below (by (with_reducible repeat (first | apply Kd.R_alloc | apply Kd.R_drewN | apply Kd.R_drew)); exact HO274.out) hb); have n1_ := Aside0.mk (below_step (by repeat (first | (with_reducible first | exact HB.out | apply below_alloc | apply pw_below_drewN | apply below_drew1) | exact HB.out)) hb); clear HO274; clear HB; have HO274 := n0_; have HB := n1_; clear n0_ n1_; (try clear hb); (try clear hb2); (try clear hk); (try clear hi)) | ((with_reducible refine gate_callee (f := 25) rfl ?_); refine goesL_ (some 85) rfl rfl Tryd.func25 (by kernel_rfl) rfl #[] rfl (by (try simp only [List.map_toArray, List.map_cons, List.map_nil]); first | done | rfl | (simp only [List.length_drop, List.length_take]; rfl)) ?_; (with_reducible refine (figureheadlaw12_answers.calls kj4  true _ ?side1 A28.out).mono ?_); (case side1 => exact Tabs_below HT.out (by repeat (first | (with_reducible first | exact HB.out | apply below_alloc | apply pw_below_drewN | apply below_drew1) | exact HB.out))); rintro e w42 ⟨rfl, hb⟩; refine ⟨_, rfl, ?_⟩; have n0_ := Aside0.mk (Kd.R_below (by (with_reducible repeat (first | apply Kd.R_alloc | apply Kd.R_drewN | apply Kd.R_drew)); exact HO274.out) hb); have n1_ := Aside0.mk (below_step (by repeat (first | (with_reducible first | exact HB.out | apply below_alloc | apply pw_below_drewN | apply below_drew1) | exact HB.out)) hb); clear HO274; clear HB; have HO274 := n0_; have HB := n1_; clear n0_ n1_; (try clear hb); (try clear hb2); (try clear hk); (try clear hi)) | (go_at_call 28; (with_reducible refine (digit_Put.calls a0 (a1 ++ a2) t280 _ A31.out).mono ?_); rintro e w43 ⟨rfl, hb⟩; have n0_ := Aside0.mk (Kd.R_below (by (with_reducible repeat (first | apply Kd.R_alloc | apply Kd.R_drewN | apply Kd.R_drew)); exact HO274.out) hb); have n1_ := Aside0.mk (below_step (by repeat (first | (with_reducible first | exact HB.out | apply below_alloc | apply pw_below_drewN | apply below_drew1) | exact HB.out)) hb); clear HO274; clear HB; have HO274 := n0_; have HB := n1_; clear n0_ n1_; (try clear hb); (try clear hb2); (try clear hk); (try clear hi)))
                          go_ret
                          exact ⟨by first | rfl | (simp [errW_none, errW_some] <;> rfl) | (simp [*, errW_none, errW_some] <;> rfl), by repeat (first | (with_reducible first | exact HB.out | apply below_alloc | apply pw_below_drewN | apply below_drew1) | exact HB.out)⟩
                        · replace c35 := Bool.eq_false_iff.mpr c35
                          subst c35
                          have H1 : ((digit_Run.f a0 ((t270 ++ (strOfNums t272)) ++ t271)).bind fun t281 => (some (t281 == (t270.size : Int)))) = some r := by rw [if_neg (show ¬ (false = true) by decide)] at H; exact H
                          clear H
                          have H := H1
                          clear H1
                          replace H := Option.bind_eq_some_iff.mp H
                          obtain ⟨t281, A440, H⟩ := H
                          replace H : (some (t281 == (t270.size : Int))) = some r := H
                          have A44 := Aside0.mk A440
                          clear A440
                          obtain rfl := Option.some.inj H
                          go_wp2_with (first | ((with_reducible refine gate_callee (f := 28) rfl ?_); refine goesL_ (some 60) rfl rfl Tryd.func28 (by kernel_rfl) rfl #[.int .i32 a0, .string a1] rfl (by (try simp only [List.map_toArray, List.map_cons, List.map_nil]); first | done | rfl | (simp only [List.length_drop, List.length_take]; rfl)) ?_; (with_reducible refine (digit_Put.calls a0 a1 t270 _ A20.out).mono ?_); rintro e w45 ⟨rfl, hb⟩; refine ⟨_, rfl, ?_⟩; have n0_ := Aside0.mk (below_step (by repeat (first | (with_reducible first | exact HB.out | apply below_alloc | apply pw_below_drewN | apply below_drew1) | exact HB.out)) hb); clear HB; have HB := n0_; clear n0_; (try clear hb); (try clear hb2); (try clear hk); (try clear hi)) | ((with_reducible refine gate_callee (f := 28) rfl ?_); refine goesL_ (some 63) rfl rfl Tryd.func28 (by kernel_rfl) rfl #[.int .i32 a0, .string a2] rfl (by (try simp only [List.map_toArray, List.map_cons, List.map_nil]); first | done | rfl | (simp only [List.length_drop, List.length_take]; rfl)) ?_; (with_reducible refine (digit_Put.calls a0 a2 t271 _ A21.out).mono ?_); rintro e w46 ⟨rfl, hb⟩; refine ⟨_, rfl, ?_⟩; have n0_ := Aside0.mk (below_step (by repeat (first | (with_reducible first | exact HB.out | apply below_alloc | apply pw_below_drewN | apply below_drew1) | exact HB.out)) hb); clear HB; have HB := n0_; clear n0_; (try clear hb); (try clear hb2); (try clear hk); (try clear hi)) | ((with_reducible refine gate_callee (f := 23) rfl ?_); refine goesL_ (some 66) rfl rfl Tryd.func23 (by kernel_rfl) rfl #[.int .i32 a3] rfl (by (try simp only [List.map_toArray, List.map_cons, List.map_nil]); first | done | rfl | (simp only [List.length_drop, List.length_take]; rfl)) ?_; (with_reducible refine (figureheadref11_Bytes.calls a3 t272 _ A22.out).mono ?_); rintro e w47 ⟨v273, rfl, ho0, hb⟩; refine ⟨_, rfl, ?_⟩; have n0_ := Aside0.mk (Kd.R_lower ho0 (below_size (by repeat (first | (with_reducible first | exact HB.out | apply below_alloc | apply pw_below_drewN | apply below_drew1) | exact HB.out)))); have n1_ := Aside0.mk (below_step (by repeat (first | (with_reducible first | exact HB.out | apply below_alloc | apply pw_below_drewN | apply below_drew1) | exact HB.out)) hb); clear HB; have HO274 := n0_; have HB := n1_; clear n0_ n1_; (try clear hb); (try clear hb2); (try clear hk); (try clear hi); (try clear ho0); have hcv48 := own_string (P := Tryd.prog) Tryd.underlying38 Tryd.underlying5 Tryd.underlying9 (Kd.own_of_R HO274.out)) | ((with_reducible refine gate_callee (f := 30) rfl ?_); refine goesL_ (some 74) rfl rfl Tryd.func30 (by kernel_rfl) rfl #[.int .i32 a0, .string ((t270 ++ (strOfNums t272)) ++ t271)] rfl (by (try simp only [List.map_toArray, List.map_cons, List.map_nil]); first | done | rfl | (simp only [List.length_drop, List.length_take]; rfl)) ?_; (with_reducible refine (digit_Get.calls a0 ((t270 ++ (strOfNums t272)) ++ t271) t275 false _ ?side1 A25.out).mono ?_); (case side1 => exact Tabs_below HT.out (by repeat (first | (with_reducible first | exact HB.out | apply below_alloc | apply pw_below_drewN | apply below_drew1) | exact HB.out))); rintro e w49 ⟨rfl, hb⟩; refine ⟨_, rfl, ?_⟩; have n0_ := Aside0.mk (Kd.R_below (by (with_reducible repeat (first | apply Kd.R_alloc | apply Kd.R_drewN | apply Kd.R_drew)); exact HO274.out) hb); have n1_ := Aside0.mk (below_step (by repeat (first | (with_reducible first | exact HB.out | apply below_alloc | apply pw_below_drewN | apply below_drew1) | exact HB.out)) hb); clear HO274; clear HB; have HO274 := n0_; have HB := n1_; clear n0_ n1_; (try clear hb); (try clear hb2); (try clear hk); (try clear hi)) | ((with_reducible refine gate_callee (f := 30) rfl ?_); refine goesL_ (some 82) rfl rfl Tryd.func30 (by kernel_rfl) rfl #[.int .i32 a0, .string (t270 ++ t271)] rfl (by (try simp only [List.map_toArray, List.map_cons, List.map_nil]); first | done | rfl | (simp only [List.length_drop, List.length_take]; rfl)) ?_; (with_reducible refine (digit_Get.calls a0 (t270 ++ t271) t277 true _ ?side1 A27.out).mono ?_); (case side1 => exact Tabs_below HT.out (by repeat (first | (with_reducible first | exact HB.out | apply below_alloc | apply pw_below_drewN | apply below_drew1) | exact HB.out))); rintro e w50 ⟨rfl, hb⟩; refine ⟨_, rfl, ?_⟩; have n0_ := Aside0.mk (Kd.R_below (by (with_reducible repeat (first | apply Kd.R_alloc | apply Kd.R_drewN | apply Kd.R_drew)); exact HO274.out) hb); have n1_ := Aside0.mk (below_step (by repeat (first | (with_reducible first | exact HB.out | apply below_alloc | apply pw_below_drewN | apply below_drew1) | exact HB.out)) hb); clear HO274; clear HB; have HO274 := n0_; have HB := n1_; clear n0_ n1_; (try clear hb); (try clear hb2); (try clear hk); (try clear hi)) | ((with_reducible refine gate_callee (f := 25) rfl ?_); refine goesL_ (some 85) rfl rfl Tryd.func25 (by kernel_rfl) rfl #[] rfl (by (try simp only [List.map_toArray, List.map_cons, List.map_nil]); first | done | rfl | (simp only [List.length_drop, List.length_take]; rfl)) ?_; (with_reducible refine (figureheadlaw12_answers.calls kj4  true _ ?side1 A28.out).mono ?_); (case side1 => exact Tabs_below HT.out (by repeat (first | (with_reducible first | exact HB.out | apply below_alloc | apply pw_below_drewN | apply below_drew1) | exact HB.out))); rintro e w51 ⟨rfl, hb⟩; refine ⟨_, rfl, ?_⟩; have n0_ := Aside0.mk (Kd.R_below (by (with_reducible repeat (first | apply Kd.R_alloc | apply Kd.R_drewN | apply Kd.R_drew)); exact HO274.out) hb); have n1_ := Aside0.mk (below_step (by repeat (first | (with_reducible first | exact HB.out | apply below_alloc | apply pw_below_drewN | apply below_drew1) | exact HB.out)) hb); clear HO274; clear HB; have HO274 := n0_; have HB := n1_; clear n0_ n1_; (try clear hb); (try clear hb2); (try clear hk); (try clear hi)) | (go_at_call 28; (with_reducible refine (digit_Put.calls a0 (a1 ++ a2) t280 _ A31.out).mono ?_); rintro e w52 ⟨rfl, hb⟩; have n0_ := Aside0.mk (Kd.R_below (by (with_reducible repeat (first | apply Kd.R_alloc | apply Kd.R_drewN | apply Kd.R_drew)); exact HO274.out) hb); have n1_ := Aside0.mk (below_step (by repeat (first | (with_reducible first | exact HB.out | apply below_alloc | apply pw_below_drewN | apply below_drew1) | exact HB.out)) hb); clear HO274; clear HB; have HO274 := n0_; have HB := n1_; clear n0_ n1_; (try clear hb); (try clear hb2); (try clear hk); (try clear hi)) | (go_at_call 32; (with_reducible refine (digit_Run.calls a0 ((t270 ++ (strOfNums t272)) ++ t271) t281 _ ?side1 A44.out).mono ?_); (case side1 => exact Tabs_below HT.out (by repeat (first | (with_reducible first | exact HB.out | apply below_alloc | apply pw_below_drewN | apply below_drew1) | exact HB.out))); rintro e w53 ⟨rfl, hb⟩; have n0_ := Aside0.mk (Kd.R_below (by (with_reducible repeat (first | apply Kd.R_alloc | apply Kd.R_drewN | apply Kd.R_drew)); exact HO274.out) hb); have n1_ := Aside0.mk (below_step (by repeat (first | (with_reducible first | exact HB.out | apply below_alloc | apply pw_below_drewN | apply below_drew1) | exact HB.out)) hb); clear HO274; clear HB; have HO274 := n0_; have HB := n1_; clear n0_ n1_; (try clear hb); (try clear hb2); (try clear hk); (try clear hi)))
                          go_ret
                          exact ⟨by first | rfl | (simp [errW_none, errW_some] <;> rfl) | (simp [*, errW_none, errW_some] <;> rfl), by repeat (first | (with_reducible first | exact HB.out | apply below_alloc | apply pw_below_drewN | apply below_drew1) | exact HB.out)⟩
                      · rw [if_neg c34] at H
                        have c34b0 : (t277.toList == (a1 ++ a2).toList) = false := beq_eq_false_iff_ne.mpr c34
                        have c34b1 : (t277.toList != (a1 ++ a2).toList) = true := bne_iff_ne.mpr c34
                        obtain rfl := Option.some.inj H
                        go_wp2_with (first | ((with_reducible refine gate_callee (f := 28) rfl ?_); refine goesL_ (some 60) rfl rfl Tryd.func28 (by kernel_rfl) rfl #[.int .i32 a0, .string a1] rfl (by (try simp only [List.map_toArray, List.map_cons, List.map_nil]); first | done | rfl | (simp only [List.length_drop, List.length_take]; rfl)) ?_; (with_reducible refine (digit_Put.calls a0 a1 t270 _ A20.out).mono ?_); rintro e w54 ⟨rfl, hb⟩; refine ⟨_, rfl, ?_⟩; have n0_ := Aside0.mk (below_step (by repeat (first | (with_reducible first | exact HB.out | apply below_alloc | apply pw_below_drewN | apply below_drew1) | exact HB.out)) hb); clear HB; have HB := n0_; clear n0_; (try clear hb); (try clear hb2); (try clear hk); (try clear hi)) | ((with_reducible refine gate_callee (f := 28) rfl ?_); refine goesL_ (some 63) rfl rfl Tryd.func28 (by kernel_rfl) rfl #[.int .i32 a0, .string a2] rfl (by (try simp only [List.map_toArray, List.map_cons, List.map_nil]); first | done | rfl | (simp only [List.length_drop, List.length_take]; rfl)) ?_; (with_reducible refine (digit_Put.calls a0 a2 t271 _ A21.out).mono ?_); rintro e w55 ⟨rfl, hb⟩; refine ⟨_, rfl, ?_⟩; have n0_ := Aside0.mk (below_step (by repeat (first | (with_reducible first | exact HB.out | apply below_alloc | apply pw_below_drewN | apply below_drew1) | exact HB.out)) hb); clear HB; have HB := n0_; clear n0_; (try clear hb); (try clear hb2); (try clear hk); (try clear hi)) | ((with_reducible refine gate_callee (f := 23) rfl ?_); refine goesL_ (some 66) rfl rfl Tryd.func23 (by kernel_rfl) rfl #[.int .i32 a3] rfl (by (try simp only [List.map_toArray, List.map_cons, List.map_nil]); first | done | rfl | (simp only [List.length_drop, List.length_take]; rfl)) ?_; (with_reducible refine (figureheadref11_Bytes.calls a3 t272 _ A22.out).mono ?_); rintro e w56 ⟨v273, rfl, ho0, hb⟩; refine ⟨_, rfl, ?_⟩; have n0_ := Aside0.mk (Kd.R_lower ho0 (below_size (by repeat (first | (with_reducible first | exact HB.out | apply below_alloc | apply pw_below_drewN | apply below_drew1) | exact HB.out)))); have n1_ := Aside0.mk (below_step (by repeat (first | (with_reducible first | exact HB.out | apply below_alloc | apply pw_below_drewN | apply below_drew1) | exact HB.out)) hb); clear HB; have HO274 := n0_; have HB := n1_; clear n0_ n1_; (try clear hb); (try clear hb2); (try clear hk); (try clear hi); (try clear ho0); have hcv57 := own_string (P := Tryd.prog) Tryd.underlying38 Tryd.underlying5 Tryd.underlying9 (Kd.own_of_R HO274.out)) | ((with_reducible refine gate_callee (f := 30) rfl ?_); refine goesL_ (some 74) rfl rfl Tryd.func30 (by kernel_rfl) rfl #[.int .i32 a0, .string ((t270 ++ (strOfNums t272)) ++ t271)] rfl (by (try simp only [List.map_toArray, List.map_cons, List.map_nil]); first | done | rfl | (simp only [List.length_drop, List.length_take]; rfl)) ?_; (with_reducible refine (digit_Get.calls a0 ((t270 ++ (strOfNums t272)) ++ t271) t275 t276 _ ?side1 A25.out).mono ?_); (case side1 => exact Tabs_below HT.out (by repeat (first | (with_reducible first | exact HB.out | apply below_alloc | apply pw_below_drewN | apply below_drew1) | exact HB.out))); rintro e w58 ⟨rfl, hb⟩; refine ⟨_, rfl, ?_⟩; have n0_ := Aside0.mk (Kd.R_below (by (with_reducible repeat (first | apply Kd.R_alloc | apply Kd.R_drewN | apply Kd.R_drew)); exact HO274.out) hb); have n1_ := Aside0.mk (below_step (by repeat (first | (with_reducible first | exact HB.out | apply below_alloc | apply pw_below_drewN | apply below_drew1) | exact HB.out)) hb); clear HO274; clear HB; have HO274 := n0_; have HB := n1_; clear n0_ n1_; (try clear hb); (try clear hb2); (try clear hk); (try clear hi)) | ((with_reducible refine gate_callee (f := 30) rfl ?_); refine goesL_ (some 82) rfl rfl Tryd.func30 (by kernel_rfl) rfl #[.int .i32 a0, .string (t270 ++ t271)] rfl (by (try simp only [List.map_toArray, List.map_cons, List.map_nil]); first | done | rfl | (simp only [List.length_drop, List.length_take]; rfl)) ?_; (with_reducible refine (digit_Get.calls a0 (t270 ++ t271) t277 true _ ?side1 A27.out).mono ?_); (case side1 => exact Tabs_below HT.out (by repeat (first | (with_reducible first | exact HB.out | apply below_alloc | apply pw_below_drewN | apply below_drew1) | exact HB.out))); rintro e w59 ⟨rfl, hb⟩; refine ⟨_, rfl, ?_⟩; have n0_ := Aside0.mk (Kd.R_below (by (with_reducible repeat (first | apply Kd.R_alloc | apply Kd.R_drewN | apply Kd.R_drew)); exact HO274.out) hb); have n1_ := Aside0.mk (below_step (by repeat (first | (with_reducible first | exact HB.out | apply below_alloc | apply pw_below_drewN | apply below_drew1) | exact HB.out)) hb); clear HO274; clear HB; have HO274 := n0_; have HB := n1_; clear n0_ n1_; (try clear hb); (try clear hb2); (try clear hk); (try clear hi)) | ((with_reducible refine gate_callee (f := 25) rfl ?_); refine goesL_ (some 85) rfl rfl Tryd.func25 (by kernel_rfl) rfl #[] rfl (by (try simp only [List.map_toArray, List.map_cons, List.map_nil]); first | done | rfl | (simp only [List.length_drop, List.length_take]; rfl)) ?_; (with_reducible refine (figureheadlaw12_answers.calls kj4  true _ ?side1 A28.out).mono ?_); (case side1 => exact Tabs_below HT.out (by repeat (first | (with_reducible first | exact HB.out | apply below_alloc | apply pw_below_drewN | apply below_drew1) | exact HB.out))); rintro e w60 ⟨rfl, hb⟩; refine ⟨_, rfl, ?_⟩; have n0_ := Aside0.mk (Kd.R_below (by (with_reducible repeat (first | apply Kd.R_alloc | apply Kd.R_drewN | apply Kd.R_drew)); exact HO274.out) hb); have n1_ := Aside0.mk (below_step (by repeat (first | (with_reducible first | exact HB.out | apply below_alloc | apply pw_below_drewN | apply below_drew1) | exact HB.out)) hb); clear HO274; clear HB; have HO274 := n0_; have HB := n1_; clear n0_ n1_; (try clear hb); (try clear hb2); (try clear hk); (try clear hi)) | (go_at_call 28; (with_reducible refine (digit_Put.calls a0 (a1 ++ a2) t280 _ A31.out).mono ?_); rintro e w61 ⟨rfl, hb⟩; have n0_ := Aside0.mk (Kd.R_below (by (with_reducible repeat (first | apply Kd.R_alloc | apply Kd.R_drewN | apply Kd.R_drew)); exact HO274.out) hb); have n1_ := Aside0.mk (below_step (by repeat (first | (with_reducible first | exact HB.out | apply below_alloc | apply pw_below_drewN | apply below_drew1) | exact HB.out)) hb); clear HO274; clear HB; have HO274 := n0_; have HB := n1_; clear n0_ n1_; (try clear hb); (try clear hb2); (try clear hk); (try clear hi)))
                        go_ret
                        exact ⟨by first | rfl | (simp [errW_none, errW_some] <;> rfl) | (simp [*, errW_none, errW_some] <;> rfl), by repeat (first | (with_reducible first | exact HB.out | apply below_alloc | apply pw_below_drewN | apply below_drew1) | exact HB.out)⟩
                    · replace c33 := Bool.eq_false_iff.mpr c33
                      subst c33
                      have H1 : (some false) = some r := by rw [if_neg (show ¬ (false = true) by decide)] at H; exact H
                      clear H
                      have H := H1
                      clear H1
                      obtain rfl := Option.some.inj H
                      go_wp2_with (first | ((with_reducible refine gate_callee (f := 28) rfl ?_); refine goesL_ (some 60) rfl rfl Tryd.func28 (by kernel_rfl) rfl #[.int .i32 a0, .string a1] rfl (by (try simp only [List.map_toArray, List.map_cons, List.map_nil]); first | done | rfl | (simp only [List.length_drop, List.length_take]; rfl)) ?_; (with_reducible refine (digit_Put.calls a0 a1 t270 _ A20.out).mono ?_); rintro e w62 ⟨rfl, hb⟩; refine ⟨_, rfl, ?_⟩; have n0_ := Aside0.mk (below_step (by repeat (first | (with_reducible first | exact HB.out | apply below_alloc | apply pw_below_drewN | apply below_drew1) | exact HB.out)) hb); clear HB; have HB := n0_; clear n0_; (try clear hb); (try clear hb2); (try clear hk); (try clear hi)) | ((with_reducible refine gate_callee (f := 28) rfl ?_); refine goesL_ (some 63) rfl rfl Tryd.func28 (by kernel_rfl) rfl #[.int .i32 a0, .string a2] rfl (by (try simp only [List.map_toArray, List.map_cons, List.map_nil]); first | done | rfl | (simp only [List.length_drop, List.length_take]; rfl)) ?_; (with_reducible refine (digit_Put.calls a0 a2 t271 _ A21.out).mono ?_); rintro e w63 ⟨rfl, hb⟩; refine ⟨_, rfl, ?_⟩; have n0_ := Aside0.mk (below_step (by repeat (first | (with_reducible first | exact HB.out | apply below_alloc | apply pw_below_drewN | apply below_drew1) | exact HB.out)) hb); clear HB; have HB := n0_; clear n0_; (try clear hb); (try clear hb2); (try clear hk); (try clear hi)) | ((with_reducible refine gate_callee (f := 23) rfl ?_); refine goesL_ (some 66) rfl rfl Tryd.func23 (by kernel_rfl) rfl #[.int .i32 a3] rfl (by (try simp only [List.map_toArray, List.map_cons, List.map_nil]); first | done | rfl | (simp only [List.length_drop, List.length_take]; rfl)) ?_; (with_reducible refine (figureheadref11_Bytes.calls a3 t272 _ A22.out).mono ?_); rintro e w64 ⟨v273, rfl, ho0, hb⟩; refine ⟨_, rfl, ?_⟩; have n0_ := Aside0.mk (Kd.R_lower ho0 (below_size (by repeat (first | (with_reducible first | exact HB.out | apply below_alloc | apply pw_below_drewN | apply below_drew1) | exact HB.out)))); have n1_ := Aside0.mk (below_step (by repeat (first | (with_reducible first | exact HB.out | apply below_alloc | apply pw_below_drewN | apply below_drew1) | exact HB.out)) hb); clear HB; have HO274 := n0_; have HB := n1_; clear n0_ n1_; (try clear hb); (try clear hb2); (try clear hk); (try clear hi); (try clear ho0); have hcv65 := own_string (P := Tryd.prog) Tryd.underlying38 Tryd.underlying5 Tryd.underlying9 (Kd.own_of_R HO274.out)) | ((with_reducible refine gate_callee (f := 30) rfl ?_); refine goesL_ (some 74) rfl rfl Tryd.func30 (by kernel_rfl) rfl #[.int .i32 a0, .string ((t270 ++ (strOfNums t272)) ++ t271)] rfl (by (try simp only [List.map_toArray, List.map_cons, List.map_nil]); first | done | rfl | (simp only [List.length_drop, List.length_take]; rfl)) ?_; (with_reducible refine (digit_Get.calls a0 ((t270 ++ (strOfNums t272)) ++ t271) t275 t276 _ ?side1 A25.out).mono ?_); (case side1 => exact Tabs_below HT.out (by repeat (first | (with_reducible first | exact HB.out | apply below_alloc | apply pw_below_drewN | apply below_drew1) | exact HB.out))); rintro e w66 ⟨rfl, hb⟩; refine ⟨_, rfl, ?_⟩; have n0_ := Aside0.mk (Kd.R_below (by (with_reducible repeat (first | apply Kd.R_alloc | apply Kd.R_drewN | apply Kd.R_drew)); exact HO274.out) hb); have n1_ := Aside0.mk (below_step (by repeat (first | (with_reducible first | exact HB.out | apply below_alloc | apply pw_below_drewN | apply below_drew1) | exact HB.out)) hb); clear HO274; clear HB; have HO274 := n0_; have HB := n1_; clear n0_ n1_; (try clear hb); (try clear hb2); (try clear hk); (try clear hi)) | ((with_reducible refine gate_callee (f := 30) rfl ?_); refine goesL_ (some 82) rfl rfl Tryd.func30 (by kernel_rfl) rfl #[.int .i32 a0, .string (t270 ++ t271)] rfl (by (try simp only [List.map_toArray, List.map_cons, List.map_nil]); first | done | rfl | (simp only [List.length_drop, List.length_take]; rfl)) ?_; (with_reducible refine (digit_Get.calls a0 (t270 ++ t271) t277 false _ ?side1 A27.out).mono ?_); (case side1 => exact Tabs_below HT.out (by repeat (first | (with_reducible first | exact HB.out | apply below_alloc | apply pw_below_drewN | apply below_drew1) | exact HB.out))); rintro e w67 ⟨rfl, hb⟩; refine ⟨_, rfl, ?_⟩; have n0_ := Aside0.mk (Kd.R_below (by (with_reducible repeat (first | apply Kd.R_alloc | apply Kd.R_drewN | apply Kd.R_drew)); exact HO274.out) hb); have n1_ := Aside0.mk (below_step (by repeat (first | (with_reducible first | exact HB.out | apply below_alloc | apply pw_below_drewN | apply below_drew1) | exact HB.out)) hb); clear HO274; clear HB; have HO274 := n0_; have HB := n1_; clear n0_ n1_; (try clear hb); (try clear hb2); (try clear hk); (try clear hi)) | ((with_reducible refine gate_callee (f := 25) rfl ?_); refine goesL_ (some 85) rfl rfl Tryd.func25 (by kernel_rfl) rfl #[] rfl (by (try simp only [List.map_toArray, List.map_cons, List.map_nil]); first | done | rfl | (simp only [List.length_drop, List.length_take]; rfl)) ?_; (with_reducible refine (figureheadlaw12_answers.calls kj4  true _ ?side1 A28.out).mono ?_); (case side1 => exact Tabs_below HT.out (by repeat (first | (with_reducible first | exact HB.out | apply below_alloc | apply pw_below_drewN | apply below_drew1) | exact HB.out))); rintro e w68 ⟨rfl, hb⟩; refine ⟨_, rfl, ?_⟩; have n0_ := Aside0.mk (Kd.R_below (by (with_reducible repeat (first | apply Kd.R_alloc | apply Kd.R_drewN | apply Kd.R_drew)); exact HO274.out) hb); have n1_ := Aside0.mk (below_step (by repeat (first | (with_reducible first | exact HB.out | apply below_alloc | apply pw_below_drewN | apply below_drew1) | exact HB.out)) hb); clear HO274; clear HB; have HO274 := n0_; have HB := n1_; clear n0_ n1_; (try clear hb); (try clear hb2); (try clear hk); (try clear hi)) | (go_at_call 28; (with_reducible refine (digit_Put.calls a0 (a1 ++ a2) t280 _ A31.out).mono ?_); rintro e w69 ⟨rfl, hb⟩; have n0_ := Aside0.mk (Kd.R_below (by (with_reducible repeat (first | apply Kd.R_alloc | apply Kd.R_drewN | apply Kd.R_drew)); exact HO274.out) hb); have n1_ := Aside0.mk (below_step (by repeat (first | (with_reducible first | exact HB.out | apply below_alloc | apply pw_below_drewN | apply below_drew1) | exact HB.out)) hb); clear HO274; clear HB; have HO274 := n0_; have HB := n1_; clear n0_ n1_; (try clear hb); (try clear hb2); (try clear hk); (try clear hi)))
                      go_ret
                      exact ⟨by first | rfl | (simp [errW_none, errW_some] <;> rfl) | (simp [*, errW_none, errW_some] <;> rfl), by repeat (first | (with_reducible first | exact HB.out | apply below_alloc | apply pw_below_drewN | apply below_drew1) | exact HB.out)⟩
                  · rw [if_neg c32] at H
                    have c32b0 : ((t270 ++ t271).toList == t280.toList) = false := beq_eq_false_iff_ne.mpr c32
                    have c32b1 : ((t270 ++ t271).toList != t280.toList) = true := bne_iff_ne.mpr c32
                    obtain rfl := Option.some.inj H
                    go_wp2_with (first | ((with_reducible refine gate_callee (f := 28) rfl ?_); refine goesL_ (some 60) rfl rfl Tryd.func28 (by kernel_rfl) rfl #[.int .i32 a0, .string a1] rfl (by (try simp only [List.map_toArray, List.map_cons, List.map_nil]); first | done | rfl | (simp only [List.length_drop, List.length_take]; rfl)) ?_; (with_reducible refine (digit_Put.calls a0 a1 t270 _ A20.out).mono ?_); rintro e w70 ⟨rfl, hb⟩; refine ⟨_, rfl, ?_⟩; have n0_ := Aside0.mk (below_step (by repeat (first | (with_reducible first | exact HB.out | apply below_alloc | apply pw_below_drewN | apply below_drew1) | exact HB.out)) hb); clear HB; have HB := n0_; clear n0_; (try clear hb); (try clear hb2); (try clear hk); (try clear hi)) | ((with_reducible refine gate_callee (f := 28) rfl ?_); refine goesL_ (some 63) rfl rfl Tryd.func28 (by kernel_rfl) rfl #[.int .i32 a0, .string a2] rfl (by (try simp only [List.map_toArray, List.map_cons, List.map_nil]); first | done | rfl | (simp only [List.length_drop, List.length_take]; rfl)) ?_; (with_reducible refine (digit_Put.calls a0 a2 t271 _ A21.out).mono ?_); rintro e w71 ⟨rfl, hb⟩; refine ⟨_, rfl, ?_⟩; have n0_ := Aside0.mk (below_step (by repeat (first | (with_reducible first | exact HB.out | apply below_alloc | apply pw_below_drewN | apply below_drew1) | exact HB.out)) hb); clear HB; have HB := n0_; clear n0_; (try clear hb); (try clear hb2); (try clear hk); (try clear hi)) | ((with_reducible refine gate_callee (f := 23) rfl ?_); refine goesL_ (some 66) rfl rfl Tryd.func23 (by kernel_rfl) rfl #[.int .i32 a3] rfl (by (try simp only [List.map_toArray, List.map_cons, List.map_nil]); first | done | rfl | (simp only [List.length_drop, List.length_take]; rfl)) ?_; (with_reducible refine (figureheadref11_Bytes.calls a3 t272 _ A22.out).mono ?_); rintro e w72 ⟨v273, rfl, ho0, hb⟩; refine ⟨_, rfl, ?_⟩; have n0_ := Aside0.mk (Kd.R_lower ho0 (below_size (by repeat (first | (with_reducible first | exact HB.out | apply below_alloc | apply pw_below_drewN | apply below_drew1) | exact HB.out)))); have n1_ := Aside0.mk (below_step (by repeat (first | (with_reducible first | exact HB.out | apply below_alloc | apply pw_below_drewN | apply below_drew1) | exact HB.out)) hb); clear HB; have HO274 := n0_; have HB := n1_; clear n0_ n1_; (try clear hb); (try clear hb2); (try clear hk); (try clear hi); (try clear ho0); have hcv73 := own_string (P := Tryd.prog) Tryd.underlying38 Tryd.underlying5 Tryd.underlying9 (Kd.own_of_R HO274.out)) | ((with_reducible refine gate_callee (f := 30) rfl ?_); refine goesL_ (some 74) rfl rfl Tryd.func30 (by kernel_rfl) rfl #[.int .i32 a0, .string ((t270 ++ (strOfNums t272)) ++ t271)] rfl (by (try simp only [List.map_toArray, List.map_cons, List.map_nil]); first | done | rfl | (simp only [List.length_drop, List.length_take]; rfl)) ?_; (with_reducible refine (digit_Get.calls a0 ((t270 ++ (strOfNums t272)) ++ t271) t275 t276 _ ?side1 A25.out).mono ?_); (case side1 => exact Tabs_below HT.out (by repeat (first | (with_reducible first | exact HB.out | apply below_alloc | apply pw_below_drewN | apply below_drew1) | exact HB.out))); rintro e w74 ⟨rfl, hb⟩; refine ⟨_, rfl, ?_⟩; have n0_ := Aside0.mk (Kd.R_below (by (with_reducible repeat (first | apply Kd.R_alloc | apply Kd.R_drewN | apply Kd.R_drew)); exact HO274.out) hb); have n1_ := Aside0.mk (below_step (by repeat (first | (with_reducible first | exact HB.out | apply below_alloc | apply pw_below_drewN | apply below_drew1) | exact HB.out)) hb); clear HO274; clear HB; have HO274 := n0_; have HB := n1_; clear n0_ n1_; (try clear hb); (try clear hb2); (try clear hk); (try clear hi)) | ((with_reducible refine gate_callee (f := 30) rfl ?_); refine goesL_ (some 82) rfl rfl Tryd.func30 (by kernel_rfl) rfl #[.int .i32 a0, .string (t270 ++ t271)] rfl (by (try simp only [List.map_toArray, List.map_cons, List.map_nil]); first | done | rfl | (simp only [List.length_drop, List.length_take]; rfl)) ?_; (with_reducible refine (digit_Get.calls a0 (t270 ++ t271) t277 t278 _ ?side1 A27.out).mono ?_); (case side1 => exact Tabs_below HT.out (by repeat (first | (with_reducible first | exact HB.out | apply below_alloc | apply pw_below_drewN | apply below_drew1) | exact HB.out))); rintro e w75 ⟨rfl, hb⟩; refine ⟨_, rfl, ?_⟩; have n0_ := Aside0.mk (Kd.R_below (by (with_reducible repeat (first | apply Kd.R_alloc | apply Kd.R_drewN | apply Kd.R_drew)); exact HO274.out) hb); have n1_ := Aside0.mk (below_step (by repeat (first | (with_reducible first | exact HB.out | apply below_alloc | apply pw_below_drewN | apply below_drew1) | exact HB.out)) hb); clear HO274; clear HB; have HO274 := n0_; have HB := n1_; clear n0_ n1_; (try clear hb); (try clear hb2); (try clear hk); (try clear hi)) | ((with_reducible refine gate_callee (f := 25) rfl ?_); refine goesL_ (some 85) rfl rfl Tryd.func25 (by kernel_rfl) rfl #[] rfl (by (try simp only [List.map_toArray, List.map_cons, List.map_nil]); first | done | rfl | (simp only [List.length_drop, List.length_take]; rfl)) ?_; (with_reducible refine (figureheadlaw12_answers.calls kj4  true _ ?side1 A28.out).mono ?_); (case side1 => exact Tabs_below HT.out (by repeat (first | (with_reducible first | exact HB.out | apply below_alloc | apply pw_below_drewN | apply below_drew1) | exact HB.out))); rintro e w76 ⟨rfl, hb⟩; refine ⟨_, rfl, ?_⟩; have n0_ := Aside0.mk (Kd.R_below (by (with_reducible repeat (first | apply Kd.R_alloc | apply Kd.R_drewN | apply Kd.R_drew)); exact HO274.out) hb); have n1_ := Aside0.mk (below_step (by repeat (first | (with_reducible first | exact HB.out | apply below_alloc | apply pw_below_drewN | apply below_drew1) | exact HB.out)) hb); clear HO274; clear HB; have HO274 := n0_; have HB := n1_; clear n0_ n1_; (try clear hb); (try clear hb2); (try clear hk); (try clear hi)) | (go_at_call 28; (with_reducible refine (digit_Put.calls a0 (a1 ++ a2) t280 _ A31.out).mono ?_); rintro e w77 ⟨rfl, hb⟩; have n0_ := Aside0.mk (Kd.R_below (by (with_reducible repeat (first | apply Kd.R_alloc | apply Kd.R_drewN | apply Kd.R_drew)); exact HO274.out) hb); have n1_ := Aside0.mk (below_step (by repeat (first | (with_reducible first | exact HB.out | apply below_alloc | apply pw_below_drewN | apply below_drew1) | exact HB.out)) hb); clear HO274; clear HB; have HO274 := n0_; have HB := n1_; clear n0_ n1_; (try clear hb); (try clear hb2); (try clear hk); (try clear hi)))
                    go_ret
                    exact ⟨by first | rfl | (simp [errW_none, errW_some] <;> rfl) | (simp [*, errW_none, errW_some] <;> rfl), by repeat (first | (with_reducible first | exact HB.out | apply below_alloc | apply pw_below_drewN | apply below_drew1) | exact HB.out)⟩
                · rw [if_neg c30] at H
                  exact absurd H (by simp)
              · replace c29 := Bool.eq_false_iff.mpr c29
                subst c29
                have H1 : (some false) = some r := by rw [if_neg (show ¬ (false = true) by decide)] at H; exact H
                clear H
                have H := H1
                clear H1
                obtain rfl := Option.some.inj H
                go_wp2_with (first | ((with_reducible refine gate_callee (f := 28) rfl ?_); refine goesL_ (some 60) rfl rfl Tryd.func28 (by kernel_rfl) rfl #[.int .i32 a0, .string a1] rfl (by (try simp only [List.map_toArray, List.map_cons, List.map_nil]); first | done | rfl | (simp only [List.length_drop, List.length_take]; rfl)) ?_; (with_reducible refine (digit_Put.calls a0 a1 t270 _ A20.out).mono ?_); rintro e w78 ⟨rfl, hb⟩; refine ⟨_, rfl, ?_⟩; have n0_ := Aside0.mk (below_step (by repeat (first | (with_reducible first | exact HB.out | apply below_alloc | apply pw_below_drewN | apply below_drew1) | exact HB.out)) hb); clear HB; have HB := n0_; clear n0_; (try clear hb); (try clear hb2); (try clear hk); (try clear hi)) | ((with_reducible refine gate_callee (f := 28) rfl ?_); refine goesL_ (some 63) rfl rfl Tryd.func28 (by kernel_rfl) rfl #[.int .i32 a0, .string a2] rfl (by (try simp only [List.map_toArray, List.map_cons, List.map_nil]); first | done | rfl | (simp only [List.length_drop, List.length_take]; rfl)) ?_; (with_reducible refine (digit_Put.calls a0 a2 t271 _ A21.out).mono ?_); rintro e w79 ⟨rfl, hb⟩; refine ⟨_, rfl, ?_⟩; have n0_ := Aside0.mk (below_step (by repeat (first | (with_reducible first | exact HB.out | apply below_alloc | apply pw_below_drewN | apply below_drew1) | exact HB.out)) hb); clear HB; have HB := n0_; clear n0_; (try clear hb); (try clear hb2); (try clear hk); (try clear hi)) | ((with_reducible refine gate_callee (f := 23) rfl ?_); refine goesL_ (some 66) rfl rfl Tryd.func23 (by kernel_rfl) rfl #[.int .i32 a3] rfl (by (try simp only [List.map_toArray, List.map_cons, List.map_nil]); first | done | rfl | (simp only [List.length_drop, List.length_take]; rfl)) ?_; (with_reducible refine (figureheadref11_Bytes.calls a3 t272 _ A22.out).mono ?_); rintro e w80 ⟨v273, rfl, ho0, hb⟩; refine ⟨_, rfl, ?_⟩; have n0_ := Aside0.mk (Kd.R_lower ho0 (below_size (by repeat (first | (with_reducible first | exact HB.out | apply below_alloc | apply pw_below_drewN | apply below_drew1) | exact HB.out)))); have n1_ := Aside0.mk (below_step (by repeat (first | (with_reducible first | exact HB.out | apply below_alloc | apply pw_below_drewN | apply below_drew1) | exact HB.out)) hb); clear HB; have HO274 := n0_; have HB := n1_; clear n0_ n1_; (try clear hb); (try clear hb2); (try clear hk); (try clear hi); (try clear ho0); have hcv81 := own_string (P := Tryd.prog) Tryd.underlying38 Tryd.underlying5 Tryd.underlying9 (Kd.own_of_R HO274.out)) | ((with_reducible refine gate_callee (f := 30) rfl ?_); refine goesL_ (some 74) rfl rfl Tryd.func30 (by kernel_rfl) rfl #[.int .i32 a0, .string ((t270 ++ (strOfNums t272)) ++ t271)] rfl (by (try simp only [List.map_toArray, List.map_cons, List.map_nil]); first | done | rfl | (simp only [List.length_drop, List.length_take]; rfl)) ?_; (with_reducible refine (digit_Get.calls a0 ((t270 ++ (strOfNums t272)) ++ t271) t275 t276 _ ?side1 A25.out).mono ?_); (case side1 => exact Tabs_below HT.out (by repeat (first | (with_reducible first | exact HB.out | apply below_alloc | apply pw_below_drewN | apply below_drew1) | exact HB.out))); rintro e w82 ⟨rfl, hb⟩; refine ⟨_, rfl, ?_⟩; have n0_ := Aside0.mk (Kd.R_below (by (with_reducible repeat (first | apply Kd.R_alloc | apply Kd.R_drewN | apply Kd.R_drew)); exact HO274.out) hb); have n1_ := Aside0.mk (below_step (by repeat (first | (with_reducible first | exact HB.out | apply below_alloc | apply pw_below_drewN | apply below_drew1) | exact HB.out)) hb); clear HO274; clear HB; have HO274 := n0_; have HB := n1_; clear n0_ n1_; (try clear hb); (try clear hb2); (try clear hk); (try clear hi)) | ((with_reducible refine gate_callee (f := 30) rfl ?_); refine goesL_ (some 82) rfl rfl Tryd.func30 (by kernel_rfl) rfl #[.int .i32 a0, .string (t270 ++ t271)] rfl (by (try simp only [List.map_toArray, List.map_cons, List.map_nil]); first | done | rfl | (simp only [List.length_drop, List.length_take]; rfl)) ?_; (with_reducible refine (digit_Get.calls a0 (t270 ++ t271) t277 t278 _ ?side1 A27.out).mono ?_); (case side1 => exact Tabs_below HT.out (by repeat (first | (with_reducible first | exact HB.out | apply below_alloc | apply pw_below_drewN | apply below_drew1) | exact HB.out))); rintro e w83 ⟨rfl, hb⟩; refine ⟨_, rfl, ?_⟩; have n0_ := Aside0.mk (Kd.R_below (by (with_reducible repeat (first | apply Kd.R_alloc | apply Kd.R_drewN | apply Kd.R_drew)); exact HO274.out) hb); have n1_ := Aside0.mk (below_step (by repeat (first | (with_reducible first | exact HB.out | apply below_alloc | apply pw_below_drewN | apply below_drew1) | exact HB.out)) hb); clear HO274; clear HB; have HO274 := n0_; have HB := n1_; clear n0_ n1_; (try clear hb); (try clear hb2); (try clear hk); (try clear hi)) | ((with_reducible refine gate_callee (f := 25) rfl ?_); refine goesL_ (some 85) rfl rfl Tryd.func25 (by kernel_rfl) rfl #[] rfl (by (try simp only [List.map_toArray, List.map_cons, List.map_nil]); first | done | rfl | (simp only [List.length_drop, List.length_take]; rfl)) ?_; (with_reducible refine (figureheadlaw12_answers.calls kj4  false _ ?side1 A28.out).mono ?_); (case side1 => exact Tabs_below HT.out (by repeat (first | (with_reducible first | exact HB.out | apply below_alloc | apply pw_below_drewN | apply below_drew1) | exact HB.out))); rintro e w84 ⟨rfl, hb⟩; refine ⟨_, rfl, ?_⟩; have n0_ := Aside0.mk (Kd.R_below (by (with_reducible repeat (first | apply Kd.R_alloc | apply Kd.R_drewN | apply Kd.R_drew)); exact HO274.out) hb); have n1_ := Aside0.mk (below_step (by repeat (first | (with_reducible first | exact HB.out | apply below_alloc | apply pw_below_drewN | apply below_drew1) | exact HB.out)) hb); clear HO274; clear HB; have HO274 := n0_; have HB := n1_; clear n0_ n1_; (try clear hb); (try clear hb2); (try clear hk); (try clear hi)))
                go_ret
                exact ⟨by first | rfl | (simp [errW_none, errW_some] <;> rfl) | (simp [*, errW_none, errW_some] <;> rfl), by repeat (first | (with_reducible first | exact HB.out | apply below_alloc | apply pw_below_drewN | apply below_drew1) | exact HB.out)⟩
            · rw [if_neg c26] at H
              exact absurd H (by simp)
          · rw [if_neg c24] at H
            exact absurd H (by simp)
        · rw [if_neg c23] at H
          exact absurd H (by simp)

/-- THE ONE PURE STATEMENT of figureheadlaw12_DigitJoins. -/
def figureheadlaw12_DigitJoins.Pure : Prop := ∀ (a0 : Int) (a1 : ByteArray) (a2 : ByteArray) (a3 : Int), (Lit.int .i32 a0).wf = true → a1.size ≤ 140737488351232 → a2.size ≤ 140737488351232 → (Lit.int .i32 a3).wf = true → ∃ k, figureheadlaw12_DigitJoins.f k a0 a1 a2 a3 = some true


end Go.Proofs.YtenifjkiiaahiaaDoor.Print
