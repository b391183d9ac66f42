/- Functions of the program as Lean functions, and that the program's calls answer so: printed by this session's own program (wip/tools/pext.py) out of the translation. Conditions: each theorem's own. Not trusted: Lean checks it. -/
import Derived.Test.YtngaeggnjfhnfaaDoorPrint0
import Derived.Test.YtngaeggnjfhnfaaDoorPrint2
namespace Go.Proofs.YtngaeggnjfhnfaaDoor.Print
open Go.RowKit Go.Proofs.YtngaeggnjfhnfaaDoorW.PrintWords Go.Proofs.YtngaeggnjfhnfaaDoorW.PrintLast Go.Proofs.YtngaeggnjfhnfaaDoorW.PrintMore
attribute [local go_sem] max2_int min2_int max_two min_two max_three min_three max_four min_four   -- for this text's walks alone
set_option linter.unusedVariables false
set_option linter.unusedSimpArgs false

/-! ### figureheadref13_MayItems: function 12 -/
def figureheadref13_MayItems.l0 : Nat → List (S34) → Int → Option (Bool)
  | 0, _, _ => none
  | k + 1, x0, x3 => if x3 < (x0.length : Int) then (if 0 ≤ x3 then (if ((rd_T34 x0 x3).f0) < 1 then (some false) else (if ((rd_T34 x0 x3).f0) > 6 then (some false) else (if ((rd_T34 x0 x3).f0) > 1 then (if ((rd_T34 x0 x3).f1) = 0 then (if ((rd_T34 x0 x3).f0) = 1 then ((figureheadref11_Scalar.f ((rd_T34 x0 x3).f1)).bind fun t167 => (if t167 = true then (figureheadref13_MayItems.l0 k x0 (wrap64 (x3 + 1))) else (some false))) else (figureheadref13_MayItems.l0 k x0 (wrap64 (x3 + 1)))) else (some false)) else (if ((rd_T34 x0 x3).f0) = 1 then ((figureheadref11_Scalar.f ((rd_T34 x0 x3).f1)).bind fun t170 => (if t170 = true then (figureheadref13_MayItems.l0 k x0 (wrap64 (x3 + 1))) else (some false))) else (figureheadref13_MayItems.l0 k x0 (wrap64 (x3 + 1))))))) else (none)) else (some true)
def figureheadref13_MayItems.f (k : Nat) (l0 : List (S34)) : Option (Bool) := figureheadref13_MayItems.l0 k l0 0
theorem figureheadref13_MayItems.mono_l : ∀ k, (∀ y0 y1, LeO (figureheadref13_MayItems.l0 k y0 y1) (figureheadref13_MayItems.l0 (k + 1) y0 y1))
  | 0 => fun _ _ r h => by simp [figureheadref13_MayItems.l0] at h
  | k + 1 => by
    have ih0 := figureheadref13_MayItems.mono_l k
    · intro y0 y1
      unfold figureheadref13_MayItems.l0
      repeat' first
      | (with_reducible exact ih0 _ _)
      | (with_reducible exact LeO.refl _)
      | (with_reducible exact LeO.none _)
      | (with_reducible refine LeO.ite ?_ ?_)
      | (with_reducible refine LeO.bind ?_ (fun _ => ?_))
      | exact ih0 _ _
      | exact LeO.none _
      | refine LeO.ite ?_ ?_
      | refine LeO.bind ?_ (fun _ => ?_)
theorem figureheadref13_MayItems.mono : ∀ a0 k, LeO (figureheadref13_MayItems.f k a0) (figureheadref13_MayItems.f (k + 1) a0) := by
  intro a0 k
  have ih0 := figureheadref13_MayItems.mono_l k
  unfold figureheadref13_MayItems.f
  repeat' first
      | (with_reducible exact ih0 _ _)
      | (with_reducible exact LeO.refl _)
      | (with_reducible exact LeO.none _)
      | (with_reducible refine LeO.ite ?_ ?_)
      | (with_reducible refine LeO.bind ?_ (fun _ => ?_))
      | exact ih0 _ _
      | exact LeO.none _
      | refine LeO.ite ?_ ?_
      | refine LeO.bind ?_ (fun _ => ?_)
set_option maxHeartbeats 8000000 in
set_option maxRecDepth 100000 in
theorem figureheadref13_MayItems.calls (k : Nat) (A0 : Option Addr) (c0 : Nat) (l0 : List (S34)) (r : Bool) (w : World) (hr0 : Kd.C k34 w A0 l0.length l0) (hc0 : l0.length ≤ c0) (h : figureheadref13_MayItems.f k l0 = some r) :
    Calls Tryd.prog 12 #[.slice A0 l0.length c0] w fun e w' => e = .returned (.bool r) ∧ Drawn0 w w' := by
  have HR0 := Aside0.mk hr0
  have HC0 := Aside0.mk hc0
  clear hr0 hc0
  have H : (figureheadref13_MayItems.l0 k l0 0) = some r := h
  clear h
  have H' := Aside0.mk H
  clear H
  go_enter Tryd.func12, Tryd.ntmps12
  go_wp2
  go_loopg [3] k (fun kq v3 w' => ∃ (x3_1 : Int), v3 = .int .i64 x3_1 ∧ Aside0 (figureheadref13_MayItems.l0 kq l0 x3_1 = some r) ∧ Aside0 (kq ≤ k) ∧ Drawn0 w w')
  case atStart => exact ⟨(0), (by first | rfl | (simp; done) | (simp [*]; done) | (simp [bneNil_]; done)), H', ⟨Nat.le_refl _⟩, by repeat (first | exact Drawn0.refl _ | apply Drawn0.step)⟩
  case round =>
    clear H'
    try clear c1
    obtain ⟨x3_1, rfl, HA, HK1, ⟨m1, rfl⟩⟩ := hrel
    cases gk with
    | zero => exact absurd HA.out (by simp [figureheadref13_MayItems.l0])
    | succ k1 =>
      have H := HA.out
      clear HA
      simp only [figureheadref13_MayItems.l0] at H
      by_cases c2 : x3_1 < (l0.length : Int)
      · rw [if_pos c2] at H
        have c2b0 : decide (x3_1 < (l0.length : Int)) = true := decide_eq_true c2
        clear c2
        by_cases c3 : 0 ≤ x3_1
        · rw [if_pos c3] at H
          have c3b0 : decide (0 ≤ x3_1) = true := decide_eq_true c3
          clear c3
          by_cases c4 : ((rd_T34 l0 x3_1).f0) < 1
          · rw [if_pos c4] at H
            have c4b0 : decide (((rd_T34 l0 x3_1).f0) < 1) = true := decide_eq_true c4
            clear c4
            obtain rfl := Option.some.inj H
            have p161 : 0 ≤ (x3_1 : Int) := of_decide_eq_true (by first | (with_reducible assumption) | assumption)
            have q161 : x3_1 < (l0.length : Int) := of_decide_eq_true (by first | (with_reducible assumption) | assumption)
            obtain ⟨ad161, e161, hx161_0, hx161_1⟩ := at_T34 HR0.out x3_1 p161 q161
            cases e161
            replace p161 := eq_true p161
            replace q161 := eq_true q161
            go_wp2
            go_ret
            exact ⟨by first | rfl | (simp; done) | (simp [*]; done) | (simp [bneNil_]; done), by repeat (first | exact Drawn0.refl _ | apply Drawn0.step)⟩
          · rw [if_neg c4] at H
            have c4b0 : decide (((rd_T34 l0 x3_1).f0) < 1) = false := decide_eq_false c4
            clear c4
            by_cases c5 : ((rd_T34 l0 x3_1).f0) > 6
            · rw [if_pos c5] at H
              have c5b0 : decide (6 < ((rd_T34 l0 x3_1).f0)) = true := decide_eq_true c5
              clear c5
              obtain rfl := Option.some.inj H
              have p161 : 0 ≤ (x3_1 : Int) := of_decide_eq_true (by first | (with_reducible assumption) | assumption)
              have q161 : x3_1 < (l0.length : Int) := of_decide_eq_true (by first | (with_reducible assumption) | assumption)
              obtain ⟨ad161, e161, hx161_0, hx161_1⟩ := at_T34 HR0.out x3_1 p161 q161
              cases e161
              replace p161 := eq_true p161
              replace q161 := eq_true q161
              have p162 : 0 ≤ (x3_1 : Int) := of_decide_eq_true (by first | (with_reducible assumption) | assumption)
              have q162 : x3_1 < (l0.length : Int) := of_decide_eq_true (by first | (with_reducible assumption) | assumption)
              obtain ⟨ad162, e162, hx162_0, hx162_1⟩ := at_T34 HR0.out x3_1 p162 q162
              obtain rfl : ad161 = ad162 := (by injection e162)
              replace p162 := eq_true p162
              replace q162 := eq_true q162
              go_wp2
              go_ret
              exact ⟨by first | rfl | (simp; done) | (simp [*]; done) | (simp [bneNil_]; done), by repeat (first | exact Drawn0.refl _ | apply Drawn0.step)⟩
            · rw [if_neg c5] at H
              have c5b0 : decide (6 < ((rd_T34 l0 x3_1).f0)) = false := decide_eq_false c5
              clear c5
              by_cases c6 : ((rd_T34 l0 x3_1).f0) > 1
              · rw [if_pos c6] at H
                have c6b0 : decide (1 < ((rd_T34 l0 x3_1).f0)) = true := decide_eq_true c6
                clear c6
                by_cases c7 : ((rd_T34 l0 x3_1).f1) = 0
                · rw [if_pos c7] at H
                  have c7b0 : (((rd_T34 l0 x3_1).f1) == 0) = true := beq_iff_eq.mpr c7
                  have c7b1 : (((rd_T34 l0 x3_1).f1) != 0) = false := bne_eq_false_iff_eq.mpr c7
                  clear c7
                  by_cases c8 : ((rd_T34 l0 x3_1).f0) = 1
                  · rw [if_pos c8] at H
                    have c8b0 : (((rd_T34 l0 x3_1).f0) == 1) = true := beq_iff_eq.mpr c8
                    have c8b1 : (((rd_T34 l0 x3_1).f0) != 1) = false := bne_eq_false_iff_eq.mpr c8
                    clear c8
                    replace H := Option.bind_eq_some_iff.mp H
                    obtain ⟨t167, A90, H⟩ := H
                    replace H : (if t167 = true then (figureheadref13_MayItems.l0 k1 l0 (wrap64 (x3_1 + 1))) else (some false)) = some r := H
                    have A9 := Aside0.mk A90
                    clear A90
                    by_cases c10 : t167 = true
                    · subst c10
                      have H1 : (figureheadref13_MayItems.l0 k1 l0 (wrap64 (x3_1 + 1))) = some r := by rw [if_pos rfl] at H; exact H
                      clear H
                      have H := H1
                      clear H1
                      have H' := Aside0.mk H
                      clear H
                      have p161 : 0 ≤ (x3_1 : Int) := of_decide_eq_true (by first | (with_reducible assumption) | assumption)
                      have q161 : x3_1 < (l0.length : Int) := of_decide_eq_true (by first | (with_reducible assumption) | assumption)
                      obtain ⟨ad161, e161, hx161_0, hx161_1⟩ := at_T34 HR0.out x3_1 p161 q161
                      cases e161
                      replace p161 := eq_true p161
                      replace q161 := eq_true q161
                      have p162 : 0 ≤ (x3_1 : Int) := of_decide_eq_true (by first | (with_reducible assumption) | assumption)
                      have q162 : x3_1 < (l0.length : Int) := of_decide_eq_true (by first | (with_reducible assumption) | assumption)
                      obtain ⟨ad162, e162, hx162_0, hx162_1⟩ := at_T34 HR0.out x3_1 p162 q162
                      obtain rfl : ad161 = ad162 := (by injection e162)
                      replace p162 := eq_true p162
                      replace q162 := eq_true q162
                      have p163 : 0 ≤ (x3_1 : Int) := of_decide_eq_true (by first | (with_reducible assumption) | assumption)
                      have q163 : x3_1 < (l0.length : Int) := of_decide_eq_true (by first | (with_reducible assumption) | assumption)
                      obtain ⟨ad163, e163, hx163_0, hx163_1⟩ := at_T34 HR0.out x3_1 p163 q163
                      obtain rfl : ad161 = ad163 := (by injection e163)
                      replace p163 := eq_true p163
                      replace q163 := eq_true q163
                      have p164 : 0 ≤ (x3_1 : Int) := of_decide_eq_true (by first | (with_reducible assumption) | assumption)
                      have q164 : x3_1 < (l0.length : Int) := of_decide_eq_true (by first | (with_reducible assumption) | assumption)
                      obtain ⟨ad164, e164, hx164_0, hx164_1⟩ := at_T34 HR0.out x3_1 p164 q164
                      obtain rfl : ad161 = ad164 := (by injection e164)
                      replace p164 := eq_true p164
                      replace q164 := eq_true q164
                      have p165 : 0 ≤ (x3_1 : Int) := of_decide_eq_true (by first | (with_reducible assumption) | assumption)
                      have q165 : x3_1 < (l0.length : Int) := of_decide_eq_true (by first | (with_reducible assumption) | assumption)
                      obtain ⟨ad165, e165, hx165_0, hx165_1⟩ := at_T34 HR0.out x3_1 p165 q165
                      obtain rfl : ad161 = ad165 := (by injection e165)
                      replace p165 := eq_true p165
                      replace q165 := eq_true q165
                      have p166 : 0 ≤ (x3_1 : Int) := of_decide_eq_true (by first | (with_reducible assumption) | assumption)
                      have q166 : x3_1 < (l0.length : Int) := of_decide_eq_true (by first | (with_reducible assumption) | assumption)
                      obtain ⟨ad166, e166, hx166_0, hx166_1⟩ := at_T34 HR0.out x3_1 p166 q166
                      obtain rfl : ad161 = ad166 := (by injection e166)
                      replace p166 := eq_true p166
                      replace q166 := eq_true q166
                      go_wp2_with (first | (go_at_call 25; (with_reducible refine (figureheadref11_Scalar.calls ((rd_T34 l0 x3_1).f1) true _ A9.out).mono ?_); rintro e w' ⟨rfl, ⟨nd, rfl⟩⟩))
                      go_roundg k1
                      case measure => have := HK1.out; omega
                      case rel => exact ⟨(wrap64 (x3_1 + 1)), (by first | rfl | (simp; done) | (simp [*]; done) | (simp [bneNil_]; done)), H', ⟨by have := HK1.out; omega⟩, by repeat (first | exact Drawn0.refl _ | apply Drawn0.step)⟩
                    · replace c10 := Bool.eq_false_iff.mpr c10
                      subst c10
                      have H1 : (some false) = some r := by rw [if_neg (show ¬ (false = true) by decide)] at H; exact H
                      clear H
                      have H := H1
                      clear H1
                      obtain rfl := Option.some.inj H
                      have p161 : 0 ≤ (x3_1 : Int) := of_decide_eq_true (by first | (with_reducible assumption) | assumption)
                      have q161 : x3_1 < (l0.length : Int) := of_decide_eq_true (by first | (with_reducible assumption) | assumption)
                      obtain ⟨ad161, e161, hx161_0, hx161_1⟩ := at_T34 HR0.out x3_1 p161 q161
                      cases e161
                      replace p161 := eq_true p161
                      replace q161 := eq_true q161
                      have p162 : 0 ≤ (x3_1 : Int) := of_decide_eq_true (by first | (with_reducible assumption) | assumption)
                      have q162 : x3_1 < (l0.length : Int) := of_decide_eq_true (by first | (with_reducible assumption) | assumption)
                      obtain ⟨ad162, e162, hx162_0, hx162_1⟩ := at_T34 HR0.out x3_1 p162 q162
                      obtain rfl : ad161 = ad162 := (by injection e162)
                      replace p162 := eq_true p162
                      replace q162 := eq_true q162
                      have p163 : 0 ≤ (x3_1 : Int) := of_decide_eq_true (by first | (with_reducible assumption) | assumption)
                      have q163 : x3_1 < (l0.length : Int) := of_decide_eq_true (by first | (with_reducible assumption) | assumption)
                      obtain ⟨ad163, e163, hx163_0, hx163_1⟩ := at_T34 HR0.out x3_1 p163 q163
                      obtain rfl : ad161 = ad163 := (by injection e163)
                      replace p163 := eq_true p163
                      replace q163 := eq_true q163
                      have p164 : 0 ≤ (x3_1 : Int) := of_decide_eq_true (by first | (with_reducible assumption) | assumption)
                      have q164 : x3_1 < (l0.length : Int) := of_decide_eq_true (by first | (with_reducible assumption) | assumption)
                      obtain ⟨ad164, e164, hx164_0, hx164_1⟩ := at_T34 HR0.out x3_1 p164 q164
                      obtain rfl : ad161 = ad164 := (by injection e164)
                      replace p164 := eq_true p164
                      replace q164 := eq_true q164
                      have p165 : 0 ≤ (x3_1 : Int) := of_decide_eq_true (by first | (with_reducible assumption) | assumption)
                      have q165 : x3_1 < (l0.length : Int) := of_decide_eq_true (by first | (with_reducible assumption) | assumption)
                      obtain ⟨ad165, e165, hx165_0, hx165_1⟩ := at_T34 HR0.out x3_1 p165 q165
                      obtain rfl : ad161 = ad165 := (by injection e165)
                      replace p165 := eq_true p165
                      replace q165 := eq_true q165
                      have p166 : 0 ≤ (x3_1 : Int) := of_decide_eq_true (by first | (with_reducible assumption) | assumption)
                      have q166 : x3_1 < (l0.length : Int) := of_decide_eq_true (by first | (with_reducible assumption) | assumption)
                      obtain ⟨ad166, e166, hx166_0, hx166_1⟩ := at_T34 HR0.out x3_1 p166 q166
                      obtain rfl : ad161 = ad166 := (by injection e166)
                      replace p166 := eq_true p166
                      replace q166 := eq_true q166
                      go_wp2_with (first | (go_at_call 25; (with_reducible refine (figureheadref11_Scalar.calls ((rd_T34 l0 x3_1).f1) false _ A9.out).mono ?_); rintro e w' ⟨rfl, ⟨nd, rfl⟩⟩))
                      go_ret
                      exact ⟨by first | rfl | (simp; done) | (simp [*]; done) | (simp [bneNil_]; done), by repeat (first | exact Drawn0.refl _ | apply Drawn0.step)⟩
                  · rw [if_neg c8] at H
                    have c8b0 : (((rd_T34 l0 x3_1).f0) == 1) = false := beq_eq_false_iff_ne.mpr c8
                    have c8b1 : (((rd_T34 l0 x3_1).f0) != 1) = true := bne_iff_ne.mpr c8
                    have H' := Aside0.mk H
                    clear H
                    have p161 : 0 ≤ (x3_1 : Int) := of_decide_eq_true (by first | (with_reducible assumption) | assumption)
                    have q161 : x3_1 < (l0.length : Int) := of_decide_eq_true (by first | (with_reducible assumption) | assumption)
                    obtain ⟨ad161, e161, hx161_0, hx161_1⟩ := at_T34 HR0.out x3_1 p161 q161
                    cases e161
                    replace p161 := eq_true p161
                    replace q161 := eq_true q161
                    have p162 : 0 ≤ (x3_1 : Int) := of_decide_eq_true (by first | (with_reducible assumption) | assumption)
                    have q162 : x3_1 < (l0.length : Int) := of_decide_eq_true (by first | (with_reducible assumption) | assumption)
                    obtain ⟨ad162, e162, hx162_0, hx162_1⟩ := at_T34 HR0.out x3_1 p162 q162
                    obtain rfl : ad161 = ad162 := (by injection e162)
                    replace p162 := eq_true p162
                    replace q162 := eq_true q162
                    have p163 : 0 ≤ (x3_1 : Int) := of_decide_eq_true (by first | (with_reducible assumption) | assumption)
                    have q163 : x3_1 < (l0.length : Int) := of_decide_eq_true (by first | (with_reducible assumption) | assumption)
                    obtain ⟨ad163, e163, hx163_0, hx163_1⟩ := at_T34 HR0.out x3_1 p163 q163
                    obtain rfl : ad161 = ad163 := (by injection e163)
                    replace p163 := eq_true p163
                    replace q163 := eq_true q163
                    have p164 : 0 ≤ (x3_1 : Int) := of_decide_eq_true (by first | (with_reducible assumption) | assumption)
                    have q164 : x3_1 < (l0.length : Int) := of_decide_eq_true (by first | (with_reducible assumption) | assumption)
                    obtain ⟨ad164, e164, hx164_0, hx164_1⟩ := at_T34 HR0.out x3_1 p164 q164
                    obtain rfl : ad161 = ad164 := (by injection e164)
                    replace p164 := eq_true p164
                    replace q164 := eq_true q164
                    have p165 : 0 ≤ (x3_1 : Int) := of_decide_eq_true (by first | (with_reducible assumption) | assumption)
                    have q165 : x3_1 < (l0.length : Int) := of_decide_eq_true (by first | (with_reducible assumption) | assumption)
                    obtain ⟨ad165, e165, hx165_0, hx165_1⟩ := at_T34 HR0.out x3_1 p165 q165
                    obtain rfl : ad161 = ad165 := (by injection e165)
                    replace p165 := eq_true p165
                    replace q165 := eq_true q165
                    go_wp2
                    go_roundg k1
                    case measure => have := HK1.out; omega
                    case rel => exact ⟨(wrap64 (x3_1 + 1)), (by first | rfl | (simp; done) | (simp [*]; done) | (simp [bneNil_]; done)), H', ⟨by have := HK1.out; omega⟩, by repeat (first | exact Drawn0.refl _ | apply Drawn0.step)⟩
                · rw [if_neg c7] at H
                  have c7b0 : (((rd_T34 l0 x3_1).f1) == 0) = false := beq_eq_false_iff_ne.mpr c7
                  have c7b1 : (((rd_T34 l0 x3_1).f1) != 0) = true := bne_iff_ne.mpr c7
                  obtain rfl := Option.some.inj H
                  have p161 : 0 ≤ (x3_1 : Int) := of_decide_eq_true (by first | (with_reducible assumption) | assumption)
                  have q161 : x3_1 < (l0.length : Int) := of_decide_eq_true (by first | (with_reducible assumption) | assumption)
                  obtain ⟨ad161, e161, hx161_0, hx161_1⟩ := at_T34 HR0.out x3_1 p161 q161
                  cases e161
                  replace p161 := eq_true p161
                  replace q161 := eq_true q161
                  have p162 : 0 ≤ (x3_1 : Int) := of_decide_eq_true (by first | (with_reducible assumption) | assumption)
                  have q162 : x3_1 < (l0.length : Int) := of_decide_eq_true (by first | (with_reducible assumption) | assumption)
                  obtain ⟨ad162, e162, hx162_0, hx162_1⟩ := at_T34 HR0.out x3_1 p162 q162
                  obtain rfl : ad161 = ad162 := (by injection e162)
                  replace p162 := eq_true p162
                  replace q162 := eq_true q162
                  have p163 : 0 ≤ (x3_1 : Int) := of_decide_eq_true (by first | (with_reducible assumption) | assumption)
                  have q163 : x3_1 < (l0.length : Int) := of_decide_eq_true (by first | (with_reducible assumption) | assumption)
                  obtain ⟨ad163, e163, hx163_0, hx163_1⟩ := at_T34 HR0.out x3_1 p163 q163
                  obtain rfl : ad161 = ad163 := (by injection e163)
                  replace p163 := eq_true p163
                  replace q163 := eq_true q163
                  have p164 : 0 ≤ (x3_1 : Int) := of_decide_eq_true (by first | (with_reducible assumption) | assumption)
                  have q164 : x3_1 < (l0.length : Int) := of_decide_eq_true (by first | (with_reducible assumption) | assumption)
                  obtain ⟨ad164, e164, hx164_0, hx164_1⟩ := at_T34 HR0.out x3_1 p164 q164
                  obtain rfl : ad161 = ad164 := (by injection e164)
                  replace p164 := eq_true p164
                  replace q164 := eq_true q164
                  go_wp2
                  go_ret
                  exact ⟨by first | rfl | (simp; done) | (simp [*]; done) | (simp [bneNil_]; done), by repeat (first | exact Drawn0.refl _ | apply Drawn0.step)⟩
              · rw [if_neg c6] at H
                have c6b0 : decide (1 < ((rd_T34 l0 x3_1).f0)) = false := decide_eq_false c6
                clear c6
                by_cases c11 : ((rd_T34 l0 x3_1).f0) = 1
                · rw [if_pos c11] at H
                  have c11b0 : (((rd_T34 l0 x3_1).f0) == 1) = true := beq_iff_eq.mpr c11
                  have c11b1 : (((rd_T34 l0 x3_1).f0) != 1) = false := bne_eq_false_iff_eq.mpr c11
                  clear c11
                  replace H := Option.bind_eq_some_iff.mp H
                  obtain ⟨t170, A120, H⟩ := H
                  replace H : (if t170 = true then (figureheadref13_MayItems.l0 k1 l0 (wrap64 (x3_1 + 1))) else (some false)) = some r := H
                  have A12 := Aside0.mk A120
                  clear A120
                  by_cases c13 : t170 = true
                  · subst c13
                    have H1 : (figureheadref13_MayItems.l0 k1 l0 (wrap64 (x3_1 + 1))) = some r := by rw [if_pos rfl] at H; exact H
                    clear H
                    have H := H1
                    clear H1
                    have H' := Aside0.mk H
                    clear H
                    have p161 : 0 ≤ (x3_1 : Int) := of_decide_eq_true (by first | (with_reducible assumption) | assumption)
                    have q161 : x3_1 < (l0.length : Int) := of_decide_eq_true (by first | (with_reducible assumption) | assumption)
                    obtain ⟨ad161, e161, hx161_0, hx161_1⟩ := at_T34 HR0.out x3_1 p161 q161
                    cases e161
                    replace p161 := eq_true p161
                    replace q161 := eq_true q161
                    have p162 : 0 ≤ (x3_1 : Int) := of_decide_eq_true (by first | (with_reducible assumption) | assumption)
                    have q162 : x3_1 < (l0.length : Int) := of_decide_eq_true (by first | (with_reducible assumption) | assumption)
                    obtain ⟨ad162, e162, hx162_0, hx162_1⟩ := at_T34 HR0.out x3_1 p162 q162
                    obtain rfl : ad161 = ad162 := (by injection e162)
                    replace p162 := eq_true p162
                    replace q162 := eq_true q162
                    have p163 : 0 ≤ (x3_1 : Int) := of_decide_eq_true (by first | (with_reducible assumption) | assumption)
                    have q163 : x3_1 < (l0.length : Int) := of_decide_eq_true (by first | (with_reducible assumption) | assumption)
                    obtain ⟨ad163, e163, hx163_0, hx163_1⟩ := at_T34 HR0.out x3_1 p163 q163
                    obtain rfl : ad161 = ad163 := (by injection e163)
                    replace p163 := eq_true p163
                    replace q163 := eq_true q163
                    have p168 : 0 ≤ (x3_1 : Int) := of_decide_eq_true (by first | (with_reducible assumption) | assumption)
                    have q168 : x3_1 < (l0.length : Int) := of_decide_eq_true (by first | (with_reducible assumption) | assumption)
                    obtain ⟨ad168, e168, hx168_0, hx168_1⟩ := at_T34 HR0.out x3_1 p168 q168
                    obtain rfl : ad161 = ad168 := (by injection e168)
                    replace p168 := eq_true p168
                    replace q168 := eq_true q168
                    have p169 : 0 ≤ (x3_1 : Int) := of_decide_eq_true (by first | (with_reducible assumption) | assumption)
                    have q169 : x3_1 < (l0.length : Int) := of_decide_eq_true (by first | (with_reducible assumption) | assumption)
                    obtain ⟨ad169, e169, hx169_0, hx169_1⟩ := at_T34 HR0.out x3_1 p169 q169
                    obtain rfl : ad161 = ad169 := (by injection e169)
                    replace p169 := eq_true p169
                    replace q169 := eq_true q169
                    go_wp2_with (first | (go_at_call 25; (with_reducible refine (figureheadref11_Scalar.calls ((rd_T34 l0 x3_1).f1) true _ A12.out).mono ?_); rintro e w' ⟨rfl, ⟨nd, rfl⟩⟩))
                    go_roundg k1
                    case measure => have := HK1.out; omega
                    case rel => exact ⟨(wrap64 (x3_1 + 1)), (by first | rfl | (simp; done) | (simp [*]; done) | (simp [bneNil_]; done)), H', ⟨by have := HK1.out; omega⟩, by repeat (first | exact Drawn0.refl _ | apply Drawn0.step)⟩
                  · replace c13 := Bool.eq_false_iff.mpr c13
                    subst c13
                    have H1 : (some false) = some r := by rw [if_neg (show ¬ (false = true) by decide)] at H; exact H
                    clear H
                    have H := H1
                    clear H1
                    obtain rfl := Option.some.inj H
                    have p161 : 0 ≤ (x3_1 : Int) := of_decide_eq_true (by first | (with_reducible assumption) | assumption)
                    have q161 : x3_1 < (l0.length : Int) := of_decide_eq_true (by first | (with_reducible assumption) | assumption)
                    obtain ⟨ad161, e161, hx161_0, hx161_1⟩ := at_T34 HR0.out x3_1 p161 q161
                    cases e161
                    replace p161 := eq_true p161
                    replace q161 := eq_true q161
                    have p162 : 0 ≤ (x3_1 : Int) := of_decide_eq_true (by first | (with_reducible assumption) | assumption)
                    have q162 : x3_1 < (l0.length : Int) := of_decide_eq_true (by first | (with_reducible assumption) | assumption)
                    obtain ⟨ad162, e162, hx162_0, hx162_1⟩ := at_T34 HR0.out x3_1 p162 q162
                    obtain rfl : ad161 = ad162 := (by injection e162)
                    replace p162 := eq_true p162
                    replace q162 := eq_true q162
                    have p163 : 0 ≤ (x3_1 : Int) := of_decide_eq_true (by first | (with_reducible assumption) | assumption)
                    have q163 : x3_1 < (l0.length : Int) := of_decide_eq_true (by first | (with_reducible assumption) | assumption)
                    obtain ⟨ad163, e163, hx163_0, hx163_1⟩ := at_T34 HR0.out x3_1 p163 q163
                    obtain rfl : ad161 = ad163 := (by injection e163)
                    replace p163 := eq_true p163
                    replace q163 := eq_true q163
                    have p168 : 0 ≤ (x3_1 : Int) := of_decide_eq_true (by first | (with_reducible assumption) | assumption)
                    have q168 : x3_1 < (l0.length : Int) := of_decide_eq_true (by first | (with_reducible assumption) | assumption)
                    obtain ⟨ad168, e168, hx168_0, hx168_1⟩ := at_T34 HR0.out x3_1 p168 q168
                    obtain rfl : ad161 = ad168 := (by injection e168)
                    replace p168 := eq_true p168
                    replace q168 := eq_true q168
                    have p169 : 0 ≤ (x3_1 : Int) := of_decide_eq_true (by first | (with_reducible assumption) | assumption)
                    have q169 : x3_1 < (l0.length : Int) := of_decide_eq_true (by first | (with_reducible assumption) | assumption)
                    obtain ⟨ad169, e169, hx169_0, hx169_1⟩ := at_T34 HR0.out x3_1 p169 q169
                    obtain rfl : ad161 = ad169 := (by injection e169)
                    replace p169 := eq_true p169
                    replace q169 := eq_true q169
                    go_wp2_with (first | (go_at_call 25; (with_reducible refine (figureheadref11_Scalar.calls ((rd_T34 l0 x3_1).f1) false _ A12.out).mono ?_); rintro e w' ⟨rfl, ⟨nd, rfl⟩⟩))
                    go_ret
                    exact ⟨by first | rfl | (simp; done) | (simp [*]; done) | (simp [bneNil_]; done), by repeat (first | exact Drawn0.refl _ | apply Drawn0.step)⟩
                · rw [if_neg c11] at H
                  have c11b0 : (((rd_T34 l0 x3_1).f0) == 1) = false := beq_eq_false_iff_ne.mpr c11
                  have c11b1 : (((rd_T34 l0 x3_1).f0) != 1) = true := bne_iff_ne.mpr c11
                  have H' := Aside0.mk H
                  clear H
                  have p161 : 0 ≤ (x3_1 : Int) := of_decide_eq_true (by first | (with_reducible assumption) | assumption)
                  have q161 : x3_1 < (l0.length : Int) := of_decide_eq_true (by first | (with_reducible assumption) | assumption)
                  obtain ⟨ad161, e161, hx161_0, hx161_1⟩ := at_T34 HR0.out x3_1 p161 q161
                  cases e161
                  replace p161 := eq_true p161
                  replace q161 := eq_true q161
                  have p162 : 0 ≤ (x3_1 : Int) := of_decide_eq_true (by first | (with_reducible assumption) | assumption)
                  have q162 : x3_1 < (l0.length : Int) := of_decide_eq_true (by first | (with_reducible assumption) | assumption)
                  obtain ⟨ad162, e162, hx162_0, hx162_1⟩ := at_T34 HR0.out x3_1 p162 q162
                  obtain rfl : ad161 = ad162 := (by injection e162)
                  replace p162 := eq_true p162
                  replace q162 := eq_true q162
                  have p163 : 0 ≤ (x3_1 : Int) := of_decide_eq_true (by first | (with_reducible assumption) | assumption)
                  have q163 : x3_1 < (l0.length : Int) := of_decide_eq_true (by first | (with_reducible assumption) | assumption)
                  obtain ⟨ad163, e163, hx163_0, hx163_1⟩ := at_T34 HR0.out x3_1 p163 q163
                  obtain rfl : ad161 = ad163 := (by injection e163)
                  replace p163 := eq_true p163
                  replace q163 := eq_true q163
                  have p168 : 0 ≤ (x3_1 : Int) := of_decide_eq_true (by first | (with_reducible assumption) | assumption)
                  have q168 : x3_1 < (l0.length : Int) := of_decide_eq_true (by first | (with_reducible assumption) | assumption)
                  obtain ⟨ad168, e168, hx168_0, hx168_1⟩ := at_T34 HR0.out x3_1 p168 q168
                  obtain rfl : ad161 = ad168 := (by injection e168)
                  replace p168 := eq_true p168
                  replace q168 := eq_true q168
                  go_wp2
                  go_roundg k1
                  case measure => have := HK1.out; omega
                  case rel => exact ⟨(wrap64 (x3_1 + 1)), (by first | rfl | (simp; done) | (simp [*]; done) | (simp [bneNil_]; done)), H', ⟨by have := HK1.out; omega⟩, by repeat (first | exact Drawn0.refl _ | apply Drawn0.step)⟩
        · rw [if_neg c3] at H
          exact absurd H (by simp)
      · rw [if_neg c2] at H
        have c2b0 : decide (x3_1 < (l0.length : Int)) = false := decide_eq_false c2
        clear c2
        obtain rfl := Option.some.inj H
        go_wp2
        go_ret
        exact ⟨by first | rfl | (simp; done) | (simp [*]; done) | (simp [bneNil_]; done), by repeat (first | exact Drawn0.refl _ | apply Drawn0.step)⟩

/-! ### figureheadref18_Text: function 13 -/
def figureheadref18_Text.l0 : Nat → List (S34) → ByteArray → Int → Int → ByteArray → ByteArray → ByteArray → ByteArray → ByteArray → ByteArray → ByteArray → ByteArray → Option (ByteArray)
  | 0, _, _, _, _, _, _, _, _, _, _, _, _ => none
  | k + 1, x1, x5, x6, x172000, x172001, x172002, x172003, x172004, x172005, x172006, x172007, x172008 => if x6 < (x1.length : Int) then (if 0 ≤ x6 then (if ((rd_T34 x1 x6).f0) = 1 then ((figureheadref11_Bytes.f ((rd_T34 x1 x6).f1)).bind fun t174 => (if x5.size + (strOfNums t174).size ≤ 9223372036854775807 then (figureheadref18_Text.l0 k x1 (x5 ++ (strOfNums t174)) (wrap64 (x6 + 1)) x172000 x172001 x172002 x172003 x172004 x172005 x172006 x172007 x172008) else (none))) else (if ((rd_T34 x1 x6).f0) = 2 then (if x5.size + x172003.size ≤ 9223372036854775807 then (figureheadref18_Text.l0 k x1 (x5 ++ x172003) (wrap64 (x6 + 1)) x172000 x172001 x172002 x172003 x172004 x172005 x172006 x172007 x172008) else (none)) else (if ((rd_T34 x1 x6).f0) = 3 then (if x5.size + x172004.size ≤ 9223372036854775807 then (figureheadref18_Text.l0 k x1 (x5 ++ x172004) (wrap64 (x6 + 1)) x172000 x172001 x172002 x172003 x172004 x172005 x172006 x172007 x172008) else (none)) else (if ((rd_T34 x1 x6).f0) = 4 then (if x5.size + x172005.size ≤ 9223372036854775807 then (figureheadref18_Text.l0 k x1 (x5 ++ x172005) (wrap64 (x6 + 1)) x172000 x172001 x172002 x172003 x172004 x172005 x172006 x172007 x172008) else (none)) else (if ((rd_T34 x1 x6).f0) = 5 then (if x5.size + x172006.size ≤ 9223372036854775807 then (figureheadref18_Text.l0 k x1 (x5 ++ x172006) (wrap64 (x6 + 1)) x172000 x172001 x172002 x172003 x172004 x172005 x172006 x172007 x172008) else (none)) else (if ((rd_T34 x1 x6).f0) = 6 then (if x5.size + x172007.size ≤ 9223372036854775807 then (figureheadref18_Text.l0 k x1 (x5 ++ x172007) (wrap64 (x6 + 1)) x172000 x172001 x172002 x172003 x172004 x172005 x172006 x172007 x172008) else (none)) else (figureheadref18_Text.l0 k x1 x5 (wrap64 (x6 + 1)) x172000 x172001 x172002 x172003 x172004 x172005 x172006 x172007 x172008))))))) else (none)) else (some x5)
def figureheadref18_Text.f (k : Nat) (a0_0 : Int) (a0_1 : ByteArray) (a0_2 : ByteArray) (a0_3 : ByteArray) (a0_4 : ByteArray) (a0_5 : ByteArray) (a0_6 : ByteArray) (a0_7 : ByteArray) (a0_8 : ByteArray) (l1 : List (S34)) : Option (ByteArray) := figureheadref18_Text.l0 k l1 (⟨#[]⟩ : ByteArray) 0 a0_0 a0_1 a0_2 a0_3 a0_4 a0_5 a0_6 a0_7 a0_8
theorem figureheadref18_Text.mono_l : ∀ k, (∀ y0 y1 y2 y3 y4 y5 y6 y7 y8 y9 y10 y11, LeO (figureheadref18_Text.l0 k y0 y1 y2 y3 y4 y5 y6 y7 y8 y9 y10 y11) (figureheadref18_Text.l0 (k + 1) y0 y1 y2 y3 y4 y5 y6 y7 y8 y9 y10 y11))
  | 0 => fun _ _ _ _ _ _ _ _ _ _ _ _ r h => by simp [figureheadref18_Text.l0] at h
  | k + 1 => by
    have ih0 := figureheadref18_Text.mono_l k
    · intro y0 y1 y2 y3 y4 y5 y6 y7 y8 y9 y10 y11
      unfold figureheadref18_Text.l0
      repeat' first
      | (with_reducible exact ih0 _ _ _ _ _ _ _ _ _ _ _ _)
      | (with_reducible exact LeO.refl _)
      | (with_reducible exact LeO.none _)
      | (with_reducible refine LeO.ite ?_ ?_)
      | (with_reducible refine LeO.bind ?_ (fun _ => ?_))
      | exact ih0 _ _ _ _ _ _ _ _ _ _ _ _
      | exact LeO.none _
      | refine LeO.ite ?_ ?_
      | refine LeO.bind ?_ (fun _ => ?_)
theorem figureheadref18_Text.mono : ∀ a0 a1 a2 a3 a4 a5 a6 a7 a8 a9 k, LeO (figureheadref18_Text.f k a0 a1 a2 a3 a4 a5 a6 a7 a8 a9) (figureheadref18_Text.f (k + 1) a0 a1 a2 a3 a4 a5 a6 a7 a8 a9) := by
  intro a0 a1 a2 a3 a4 a5 a6 a7 a8 a9 k
  have ih0 := figureheadref18_Text.mono_l k
  unfold figureheadref18_Text.f
  repeat' first
      | (with_reducible exact ih0 _ _ _ _ _ _ _ _ _ _ _ _)
      | (with_reducible exact LeO.refl _)
      | (with_reducible exact LeO.none _)
      | (with_reducible refine LeO.ite ?_ ?_)
      | (with_reducible refine LeO.bind ?_ (fun _ => ?_))
      | exact ih0 _ _ _ _ _ _ _ _ _ _ _ _
      | exact LeO.none _
      | refine LeO.ite ?_ ?_
      | refine LeO.bind ?_ (fun _ => ?_)
set_option maxHeartbeats 8000000 in
set_option maxRecDepth 100000 in
theorem figureheadref18_Text.calls (k : Nat) (a0_0 : Int) (a0_1 : ByteArray) (a0_2 : ByteArray) (a0_3 : ByteArray) (a0_4 : ByteArray) (a0_5 : ByteArray) (a0_6 : ByteArray) (a0_7 : ByteArray) (a0_8 : ByteArray) (A1 : Option Addr) (c1 : Nat) (l1 : List (S34)) (r : ByteArray) (w : World) (hr1 : Kd.C k34 w A1 l1.length l1) (hc1 : l1.length ≤ c1) (h : figureheadref18_Text.f k a0_0 a0_1 a0_2 a0_3 a0_4 a0_5 a0_6 a0_7 a0_8 l1 = some r) :
    Calls Tryd.prog 13 #[.agg #[.int .i32 a0_0, .string a0_1, .string a0_2, .string a0_3, .string a0_4, .string a0_5, .string a0_6, .string a0_7, .string a0_8], .slice A1 l1.length c1] w fun e w' => e = .returned (.string r) ∧ Below w.heap.size w w' := by
  have hu23 := Tryd.underlying23
  have HR1 := Aside0.mk hr1
  have HC1 := Aside0.mk hc1
  clear hr1 hc1
  have HB := Aside0.mk (Below.refl w.heap.size w)
  have H : (figureheadref18_Text.l0 k l1 (⟨#[]⟩ : ByteArray) 0 a0_0 a0_1 a0_2 a0_3 a0_4 a0_5 a0_6 a0_7 a0_8) = some r := h
  clear h
  have H' := Aside0.mk H
  clear H
  go_enter Tryd.func13, Tryd.ntmps13
  go_wp2_with (first | ((with_reducible refine gate_dst (N := 2) rfl ?_); refine box_event ?hg (N := 2) ?hd (cs := #[.int .i32 a0_0, .string a0_1, .string a0_2, .string a0_3, .string a0_4, .string a0_5, .string a0_6, .string a0_7, .string a0_8]) (t := 23) ?hr ?_; (case hd => rfl); (case hg => rfl); (case hr => first | (go_simp; done) | (go_simp; rfl)); intro gb171 hg w3 hbox hb; have n0_ := Aside0.mk (below_step (by repeat (first | (with_reducible first | exact HB.out | apply below_alloc | apply pw_below_drewN | apply below_drew1) | exact HB.out)) hb); have n1_ := Aside0.mk (hbox); have n2_ := Aside0.mk ((by rw [hg]; exact (below_size (by repeat (first | (with_reducible first | exact HB.out | apply below_alloc | apply pw_below_drewN | apply below_drew1) | exact HB.out))) : w.heap.size ≤ gb171)); have n3_ := Aside0.mk ((by rw [hg]; exact (below_size (by repeat (first | (with_reducible first | exact HB.out | apply below_alloc | apply pw_below_drewN | apply below_drew1) | exact HB.out))) : w.heap.size ≤ gb171)); clear HB; have HB := n0_; have BK171 := n1_; have GW171 := n2_; have GE171 := n3_; clear n0_ n1_ n2_ n3_; clear hb hbox hg))
  go_loopg [5, 6] k (fun kq v5 v6 w' => ∃ (x5_1 : ByteArray) (x6_1 : Int), v5 = .string x5_1 ∧ v6 = .int .i64 x6_1 ∧ Aside0 (figureheadref18_Text.l0 kq l1 x5_1 x6_1 a0_0 a0_1 a0_2 a0_3 a0_4 a0_5 a0_6 a0_7 a0_8 = some r) ∧ Aside0 (kq ≤ k) ∧ Aside0 (w'.heap[gb171]? = some (.cells #[.int .i32 a0_0, .string a0_1, .string a0_2, .string a0_3, .string a0_4, .string a0_5, .string a0_6, .string a0_7, .string a0_8] 23 (0, 0))) ∧ Aside0 (Below w.heap.size w w'))
  case atStart => exact ⟨((⟨#[]⟩ : ByteArray)), (0), (by first | rfl | (simp; done) | (simp [*]; done) | (simp [bneNil_]; done)), (by first | rfl | (simp; done) | (simp [*]; done) | (simp [bneNil_]; done)), H', ⟨Nat.le_refl _⟩, ⟨by (with_reducible repeat (first | refine blk_drewN ?_ _ | refine blk_drew ?_ | refine blk_alloc ?_ _)); exact BK171.out⟩, ⟨by repeat (first | (with_reducible first | exact HB.out | apply below_alloc | apply pw_below_drewN | apply below_drew1 | refine below_set ?_ GE171.out) | exact HB.out)⟩⟩
  case round =>
    clear H'
    try clear c1
    try clear p2
    obtain ⟨x5_1, x6_1, rfl, rfl, HA, HK1, BK171, HB⟩ := hrel
    cases gk with
    | zero => exact absurd HA.out (by simp [figureheadref18_Text.l0])
    | succ k1 =>
      have H := HA.out
      clear HA
      simp only [figureheadref18_Text.l0] at H
      by_cases c4 : x6_1 < (l1.length : Int)
      · rw [if_pos c4] at H
        have c4b0 : decide (x6_1 < (l1.length : Int)) = true := decide_eq_true c4
        clear c4
        by_cases c5 : 0 ≤ x6_1
        · rw [if_pos c5] at H
          have c5b0 : decide (0 ≤ x6_1) = true := decide_eq_true c5
          clear c5
          by_cases c6 : ((rd_T34 l1 x6_1).f0) = 1
          · rw [if_pos c6] at H
            have c6b0 : (((rd_T34 l1 x6_1).f0) == 1) = true := beq_iff_eq.mpr c6
            have c6b1 : (((rd_T34 l1 x6_1).f0) != 1) = false := bne_eq_false_iff_eq.mpr c6
            clear c6
            replace H := Option.bind_eq_some_iff.mp H
            obtain ⟨t174, A70, H⟩ := H
            replace H : (if x5_1.size + (strOfNums t174).size ≤ 9223372036854775807 then (figureheadref18_Text.l0 k1 l1 (x5_1 ++ (strOfNums t174)) (wrap64 (x6_1 + 1)) a0_0 a0_1 a0_2 a0_3 a0_4 a0_5 a0_6 a0_7 a0_8) else (none)) = some r := H
            have A7 := Aside0.mk A70
            clear A70
            by_cases c8 : x5_1.size + (strOfNums t174).size ≤ 9223372036854775807
            · rw [if_pos c8] at H
              have c8b0 := eq_true c8
              have c8b1 : decide (x5_1.size + (strOfNums t174).size ≤ 9223372036854775807) = true := decide_eq_true c8
              try have c8b2 : (9223372036854775807 < x5_1.size + (strOfNums t174).size) = False := eq_false (Nat.not_lt.2 c8)
              have H' := Aside0.mk H
              clear H
              have p172 : 0 ≤ (x6_1 : Int) := of_decide_eq_true (by first | (with_reducible assumption) | assumption)
              have q172 : x6_1 < (l1.length : Int) := of_decide_eq_true (by first | (with_reducible assumption) | assumption)
              obtain ⟨ad172, e172, hx172_0, hx172_1⟩ := at_T34 HR1.out x6_1 p172 q172
              cases e172
              replace hx172_0 := (HB.out.cell (World.block_lt_of_cell? w _ hx172_0)).trans hx172_0
              replace hx172_1 := (HB.out.cell (World.block_lt_of_cell? w _ hx172_1)).trans hx172_1
              replace p172 := eq_true p172
              replace q172 := eq_true q172
              have p173 : 0 ≤ (x6_1 : Int) := of_decide_eq_true (by first | (with_reducible assumption) | assumption)
              have q173 : x6_1 < (l1.length : Int) := of_decide_eq_true (by first | (with_reducible assumption) | assumption)
              obtain ⟨ad173, e173, hx173_0, hx173_1⟩ := at_T34 HR1.out x6_1 p173 q173
              obtain rfl : ad172 = ad173 := (by injection e173)
              replace hx173_0 := (HB.out.cell (World.block_lt_of_cell? w _ hx173_0)).trans hx173_0
              replace hx173_1 := (HB.out.cell (World.block_lt_of_cell? w _ hx173_1)).trans hx173_1
              replace p173 := eq_true p173
              replace q173 := eq_true q173
              go_wp2_with (first | ((with_reducible refine gate_callee (f := 26) rfl ?_); refine goesL_ (some 26) rfl rfl Tryd.func26 (by kernel_rfl) rfl #[.int .i32 ((rd_T34 l1 x6_1).f1)] rfl (by (try simp only [List.map_toArray, List.map_cons, List.map_nil]); first | done | rfl | (simp only [List.length_drop, List.length_take]; rfl)) ?_; (with_reducible refine (figureheadref11_Bytes.calls ((rd_T34 l1 x6_1).f1) t174 _ A7.out).mono ?_); rintro e w9 ⟨v175, rfl, ho0, hb⟩; refine ⟨_, rfl, ?_⟩; have n0_ := Aside0.mk (Kd.R_lower ho0 (below_size (by repeat (first | (with_reducible first | exact HB.out | apply below_alloc | apply pw_below_drewN | apply below_drew1 | refine below_set ?_ GE171.out) | exact HB.out)))); have n1_ := Aside0.mk (blk_below (g := gb171) (o := .cells #[.int .i32 a0_0, .string a0_1, .string a0_2, .string a0_3, .string a0_4, .string a0_5, .string a0_6, .string a0_7, .string a0_8] 23 (0, 0)) (by (with_reducible repeat (first | refine blk_drewN ?_ _ | refine blk_drew ?_ | refine blk_alloc ?_ _)); exact BK171.out) hb); have n2_ := Aside0.mk (below_step (by repeat (first | (with_reducible first | exact HB.out | apply below_alloc | apply pw_below_drewN | apply below_drew1 | refine below_set ?_ GE171.out) | exact HB.out)) hb); clear BK171; clear HB; have HO176 := n0_; have BK171 := n1_; have HB := n2_; clear n0_ n1_ n2_; (try clear hb); (try clear hb2); (try clear hk); (try clear hi); (try clear ho0); have hcv10 := own_string (P := Tryd.prog) Tryd.underlying47 Tryd.underlying5 Tryd.underlying9 (Kd.own_of_R HO176.out)))
              go_roundg k1
              case measure => have := HK1.out; omega
              case rel => exact ⟨(x5_1 ++ (strOfNums t174)), (wrap64 (x6_1 + 1)), (by first | rfl | (simp; done) | (simp [*]; done) | (simp [bneNil_]; done)), (by first | rfl | (simp; done) | (simp [*]; done) | (simp [bneNil_]; done)), H', ⟨by have := HK1.out; omega⟩, ⟨by (with_reducible repeat (first | refine blk_drewN ?_ _ | refine blk_drew ?_ | refine blk_alloc ?_ _)); exact BK171.out⟩, ⟨by repeat (first | (with_reducible first | exact HB.out | apply below_alloc | apply pw_below_drewN | apply below_drew1 | refine below_set ?_ GE171.out) | exact HB.out)⟩⟩
            · rw [if_neg c8] at H
              exact absurd H (by simp)
          · rw [if_neg c6] at H
            have c6b0 : (((rd_T34 l1 x6_1).f0) == 1) = false := beq_eq_false_iff_ne.mpr c6
            have c6b1 : (((rd_T34 l1 x6_1).f0) != 1) = true := bne_iff_ne.mpr c6
            by_cases c11 : ((rd_T34 l1 x6_1).f0) = 2
            · rw [if_pos c11] at H
              have c11b0 : (((rd_T34 l1 x6_1).f0) == 2) = true := beq_iff_eq.mpr c11
              have c11b1 : (((rd_T34 l1 x6_1).f0) != 2) = false := bne_eq_false_iff_eq.mpr c11
              clear c11
              by_cases c12 : x5_1.size + a0_3.size ≤ 9223372036854775807
              · rw [if_pos c12] at H
                have c12b0 := eq_true c12
                have c12b1 : decide (x5_1.size + a0_3.size ≤ 9223372036854775807) = true := decide_eq_true c12
                try have c12b2 : (9223372036854775807 < x5_1.size + a0_3.size) = False := eq_false (Nat.not_lt.2 c12)
                have H' := Aside0.mk H
                clear H
                have p172 : 0 ≤ (x6_1 : Int) := of_decide_eq_true (by first | (with_reducible assumption) | assumption)
                have q172 : x6_1 < (l1.length : Int) := of_decide_eq_true (by first | (with_reducible assumption) | assumption)
                obtain ⟨ad172, e172, hx172_0, hx172_1⟩ := at_T34 HR1.out x6_1 p172 q172
                cases e172
                replace hx172_0 := (HB.out.cell (World.block_lt_of_cell? w _ hx172_0)).trans hx172_0
                replace hx172_1 := (HB.out.cell (World.block_lt_of_cell? w _ hx172_1)).trans hx172_1
                replace p172 := eq_true p172
                replace q172 := eq_true q172
                have hcz13_0 : wr.cell? ⟨gb171, 0, none⟩ = some (.int .i32 a0_0) := (blk_cell BK171.out 0).trans rfl
                have hcz13_1 : wr.cell? ⟨gb171, 1, none⟩ = some (.string a0_1) := (blk_cell BK171.out 1).trans rfl
                have hcz13_2 : wr.cell? ⟨gb171, 2, none⟩ = some (.string a0_2) := (blk_cell BK171.out 2).trans rfl
                have hcz13_3 : wr.cell? ⟨gb171, 3, none⟩ = some (.string a0_3) := (blk_cell BK171.out 3).trans rfl
                have hcz13_4 : wr.cell? ⟨gb171, 4, none⟩ = some (.string a0_4) := (blk_cell BK171.out 4).trans rfl
                have hcz13_5 : wr.cell? ⟨gb171, 5, none⟩ = some (.string a0_5) := (blk_cell BK171.out 5).trans rfl
                have hcz13_6 : wr.cell? ⟨gb171, 6, none⟩ = some (.string a0_6) := (blk_cell BK171.out 6).trans rfl
                have hcz13_7 : wr.cell? ⟨gb171, 7, none⟩ = some (.string a0_7) := (blk_cell BK171.out 7).trans rfl
                have hcz13_8 : wr.cell? ⟨gb171, 8, none⟩ = some (.string a0_8) := (blk_cell BK171.out 8).trans rfl
                have hfz13_0 := blk_frozen BK171.out 0
                have hfz13_1 := blk_frozen BK171.out 1
                have hfz13_2 := blk_frozen BK171.out 2
                have hfz13_3 := blk_frozen BK171.out 3
                have hfz13_4 := blk_frozen BK171.out 4
                have hfz13_5 := blk_frozen BK171.out 5
                have hfz13_6 := blk_frozen BK171.out 6
                have hfz13_7 := blk_frozen BK171.out 7
                have hfz13_8 := blk_frozen BK171.out 8
                go_wp2
                go_roundg k1
                case measure => have := HK1.out; omega
                case rel => exact ⟨(x5_1 ++ a0_3), (wrap64 (x6_1 + 1)), (by first | rfl | (simp; done) | (simp [*]; done) | (simp [bneNil_]; done)), (by first | rfl | (simp; done) | (simp [*]; done) | (simp [bneNil_]; done)), H', ⟨by have := HK1.out; omega⟩, ⟨by (with_reducible repeat (first | refine blk_drewN ?_ _ | refine blk_drew ?_ | refine blk_alloc ?_ _)); exact BK171.out⟩, ⟨by repeat (first | (with_reducible first | exact HB.out | apply below_alloc | apply pw_below_drewN | apply below_drew1 | refine below_set ?_ GE171.out) | exact HB.out)⟩⟩
              · rw [if_neg c12] at H
                exact absurd H (by simp)
            · rw [if_neg c11] at H
              have c11b0 : (((rd_T34 l1 x6_1).f0) == 2) = false := beq_eq_false_iff_ne.mpr c11
              have c11b1 : (((rd_T34 l1 x6_1).f0) != 2) = true := bne_iff_ne.mpr c11
              by_cases c14 : ((rd_T34 l1 x6_1).f0) = 3
              · rw [if_pos c14] at H
                have c14b0 : (((rd_T34 l1 x6_1).f0) == 3) = true := beq_iff_eq.mpr c14
                have c14b1 : (((rd_T34 l1 x6_1).f0) != 3) = false := bne_eq_false_iff_eq.mpr c14
                clear c14
                by_cases c15 : x5_1.size + a0_4.size ≤ 9223372036854775807
                · rw [if_pos c15] at H
                  have c15b0 := eq_true c15
                  have c15b1 : decide (x5_1.size + a0_4.size ≤ 9223372036854775807) = true := decide_eq_true c15
                  try have c15b2 : (9223372036854775807 < x5_1.size + a0_4.size) = False := eq_false (Nat.not_lt.2 c15)
                  have H' := Aside0.mk H
                  clear H
                  have p172 : 0 ≤ (x6_1 : Int) := of_decide_eq_true (by first | (with_reducible assumption) | assumption)
                  have q172 : x6_1 < (l1.length : Int) := of_decide_eq_true (by first | (with_reducible assumption) | assumption)
                  obtain ⟨ad172, e172, hx172_0, hx172_1⟩ := at_T34 HR1.out x6_1 p172 q172
                  cases e172
                  replace hx172_0 := (HB.out.cell (World.block_lt_of_cell? w _ hx172_0)).trans hx172_0
                  replace hx172_1 := (HB.out.cell (World.block_lt_of_cell? w _ hx172_1)).trans hx172_1
                  replace p172 := eq_true p172
                  replace q172 := eq_true q172
                  have hcz16_0 : wr.cell? ⟨gb171, 0, none⟩ = some (.int .i32 a0_0) := (blk_cell BK171.out 0).trans rfl
                  have hcz16_1 : wr.cell? ⟨gb171, 1, none⟩ = some (.string a0_1) := (blk_cell BK171.out 1).trans rfl
                  have hcz16_2 : wr.cell? ⟨gb171, 2, none⟩ = some (.string a0_2) := (blk_cell BK171.out 2).trans rfl
                  have hcz16_3 : wr.cell? ⟨gb171, 3, none⟩ = some (.string a0_3) := (blk_cell BK171.out 3).trans rfl
                  have hcz16_4 : wr.cell? ⟨gb171, 4, none⟩ = some (.string a0_4) := (blk_cell BK171.out 4).trans rfl
                  have hcz16_5 : wr.cell? ⟨gb171, 5, none⟩ = some (.string a0_5) := (blk_cell BK171.out 5).trans rfl
                  have hcz16_6 : wr.cell? ⟨gb171, 6, none⟩ = some (.string a0_6) := (blk_cell BK171.out 6).trans rfl
                  have hcz16_7 : wr.cell? ⟨gb171, 7, none⟩ = some (.string a0_7) := (blk_cell BK171.out 7).trans rfl
                  have hcz16_8 : wr.cell? ⟨gb171, 8, none⟩ = some (.string a0_8) := (blk_cell BK171.out 8).trans rfl
                  have hfz16_0 := blk_frozen BK171.out 0
                  have hfz16_1 := blk_frozen BK171.out 1
                  have hfz16_2 := blk_frozen BK171.out 2
                  have hfz16_3 := blk_frozen BK171.out 3
                  have hfz16_4 := blk_frozen BK171.out 4
                  have hfz16_5 := blk_frozen BK171.out 5
                  have hfz16_6 := blk_frozen BK171.out 6
                  have hfz16_7 := blk_frozen BK171.out 7
                  have hfz16_8 := blk_frozen BK171.out 8
                  go_wp2
                  go_roundg k1
                  case measure => have := HK1.out; omega
                  case rel => exact ⟨(x5_1 ++ a0_4), (wrap64 (x6_1 + 1)), (by first | rfl | (simp; done) | (simp [*]; done) | (simp [bneNil_]; done)), (by first | rfl | (simp; done) | (simp [*]; done) | (simp [bneNil_]; done)), H', ⟨by have := HK1.out; omega⟩, ⟨by (with_reducible repeat (first | refine blk_drewN ?_ _ | refine blk_drew ?_ | refine blk_alloc ?_ _)); exact BK171.out⟩, ⟨by repeat (first | (with_reducible first | exact HB.out | apply below_alloc | apply pw_below_drewN | apply below_drew1 | refine below_set ?_ GE171.out) | exact HB.out)⟩⟩
                · rw [if_neg c15] at H
                  exact absurd H (by simp)
              · rw [if_neg c14] at H
                have c14b0 : (((rd_T34 l1 x6_1).f0) == 3) = false := beq_eq_false_iff_ne.mpr c14
                have c14b1 : (((rd_T34 l1 x6_1).f0) != 3) = true := bne_iff_ne.mpr c14
                by_cases c17 : ((rd_T34 l1 x6_1).f0) = 4
                · rw [if_pos c17] at H
                  have c17b0 : (((rd_T34 l1 x6_1).f0) == 4) = true := beq_iff_eq.mpr c17
                  have c17b1 : (((rd_T34 l1 x6_1).f0) != 4) = false := bne_eq_false_iff_eq.mpr c17
                  clear c17
                  by_cases c18 : x5_1.size + a0_5.size ≤ 9223372036854775807
                  · rw [if_pos c18] at H
                    have c18b0 := eq_true c18
                    have c18b1 : decide (x5_1.size + a0_5.size ≤ 9223372036854775807) = true := decide_eq_true c18
                    try have c18b2 : (9223372036854775807 < x5_1.size + a0_5.size) = False := eq_false (Nat.not_lt.2 c18)
                    have H' := Aside0.mk H
                    clear H
                    have p172 : 0 ≤ (x6_1 : Int) := of_decide_eq_true (by first | (with_reducible assumption) | assumption)
                    have q172 : x6_1 < (l1.length : Int) := of_decide_eq_true (by first | (with_reducible assumption) | assumption)
                    obtain ⟨ad172, e172, hx172_0, hx172_1⟩ := at_T34 HR1.out x6_1 p172 q172
                    cases e172
                    replace hx172_0 := (HB.out.cell (World.block_lt_of_cell? w _ hx172_0)).trans hx172_0
                    replace hx172_1 := (HB.out.cell (World.block_lt_of_cell? w _ hx172_1)).trans hx172_1
                    replace p172 := eq_true p172
                    replace q172 := eq_true q172
                    have hcz19_0 : wr.cell? ⟨gb171, 0, none⟩ = some (.int .i32 a0_0) := (blk_cell BK171.out 0).trans rfl
                    have hcz19_1 : wr.cell? ⟨gb171, 1, none⟩ = some (.string a0_1) := (blk_cell BK171.out 1).trans rfl
                    have hcz19_2 : wr.cell? ⟨gb171, 2, none⟩ = some (.string a0_2) := (blk_cell BK171.out 2).trans rfl
                    have hcz19_3 : wr.cell? ⟨gb171, 3, none⟩ = some (.string a0_3) := (blk_cell BK171.out 3).trans rfl
                    have hcz19_4 : wr.cell? ⟨gb171, 4, none⟩ = some (.string a0_4) := (blk_cell BK171.out 4).trans rfl
                    have hcz19_5 : wr.cell? ⟨gb171, 5, none⟩ = some (.string a0_5) := (blk_cell BK171.out 5).trans rfl
                    have hcz19_6 : wr.cell? ⟨gb171, 6, none⟩ = some (.string a0_6) := (blk_cell BK171.out 6).trans rfl
                    have hcz19_7 : wr.cell? ⟨gb171, 7, none⟩ = some (.string a0_7) := (blk_cell BK171.out 7).trans rfl
                    have hcz19_8 : wr.cell? ⟨gb171, 8, none⟩ = some (.string a0_8) := (blk_cell BK171.out 8).trans rfl
                    have hfz19_0 := blk_frozen BK171.out 0
                    have hfz19_1 := blk_frozen BK171.out 1
                    have hfz19_2 := blk_frozen BK171.out 2
                    have hfz19_3 := blk_frozen BK171.out 3
                    have hfz19_4 := blk_frozen BK171.out 4
                    have hfz19_5 := blk_frozen BK171.out 5
                    have hfz19_6 := blk_frozen BK171.out 6
                    have hfz19_7 := blk_frozen BK171.out 7
                    have hfz19_8 := blk_frozen BK171.out 8
                    go_wp2
                    go_roundg k1
                    case measure => have := HK1.out; omega
                    case rel => exact ⟨(x5_1 ++ a0_5), (wrap64 (x6_1 + 1)), (by first | rfl | (simp; done) | (simp [*]; done) | (simp [bneNil_]; done)), (by first | rfl | (simp; done) | (simp [*]; done) | (simp [bneNil_]; done)), H', ⟨by have := HK1.out; omega⟩, ⟨by (with_reducible repeat (first | refine blk_drewN ?_ _ | refine blk_drew ?_ | refine blk_alloc ?_ _)); exact BK171.out⟩, ⟨by repeat (first | (with_reducible first | exact HB.out | apply below_alloc | apply pw_below_drewN | apply below_drew1 | refine below_set ?_ GE171.out) | exact HB.out)⟩⟩
                  · rw [if_neg c18] at H
                    exact absurd H (by simp)
                · rw [if_neg c17] at H
                  have c17b0 : (((rd_T34 l1 x6_1).f0) == 4) = false := beq_eq_false_iff_ne.mpr c17
                  have c17b1 : (((rd_T34 l1 x6_1).f0) != 4) = true := bne_iff_ne.mpr c17
                  by_cases c20 : ((rd_T34 l1 x6_1).f0) = 5
                  · rw [if_pos c20] at H
                    have c20b0 : (((rd_T34 l1 x6_1).f0) == 5) = true := beq_iff_eq.mpr c20
                    have c20b1 : (((rd_T34 l1 x6_1).f0) != 5) = false := bne_eq_false_iff_eq.mpr c20
                    clear c20
                    by_cases c21 : x5_1.size + a0_6.size ≤ 9223372036854775807
                    · rw [if_pos c21] at H
                      have c21b0 := eq_true c21
                      have c21b1 : decide (x5_1.size + a0_6.size ≤ 9223372036854775807) = true := decide_eq_true c21
                      try have c21b2 : (9223372036854775807 < x5_1.size + a0_6.size) = False := eq_false (Nat.not_lt.2 c21)
                      have H' := Aside0.mk H
                      clear H
                      have p172 : 0 ≤ (x6_1 : Int) := of_decide_eq_true (by first | (with_reducible assumption) | assumption)
                      have q172 : x6_1 < (l1.length : Int) := of_decide_eq_true (by first | (with_reducible assumption) | assumption)
                      obtain ⟨ad172, e172, hx172_0, hx172_1⟩ := at_T34 HR1.out x6_1 p172 q172
                      cases e172
                      replace hx172_0 := (HB.out.cell (World.block_lt_of_cell? w _ hx172_0)).trans hx172_0
                      replace hx172_1 := (HB.out.cell (World.block_lt_of_cell? w _ hx172_1)).trans hx172_1
                      replace p172 := eq_true p172
                      replace q172 := eq_true q172
                      have hcz22_0 : wr.cell? ⟨gb171, 0, none⟩ = some (.int .i32 a0_0) := (blk_cell BK171.out 0).trans rfl
                      have hcz22_1 : wr.cell? ⟨gb171, 1, none⟩ = some (.string a0_1) := (blk_cell BK171.out 1).trans rfl
                      have hcz22_2 : wr.cell? ⟨gb171, 2, none⟩ = some (.string a0_2) := (blk_cell BK171.out 2).trans rfl
                      have hcz22_3 : wr.cell? ⟨gb171, 3, none⟩ = some (.string a0_3) := (blk_cell BK171.out 3).trans rfl
                      have hcz22_4 : wr.cell? ⟨gb171, 4, none⟩ = some (.string a0_4) := (blk_cell BK171.out 4).trans rfl
                      have hcz22_5 : wr.cell? ⟨gb171, 5, none⟩ = some (.string a0_5) := (blk_cell BK171.out 5).trans rfl
                      have hcz22_6 : wr.cell? ⟨gb171, 6, none⟩ = some (.string a0_6) := (blk_cell BK171.out 6).trans rfl
                      have hcz22_7 : wr.cell? ⟨gb171, 7, none⟩ = some (.string a0_7) := (blk_cell BK171.out 7).trans rfl
                      have hcz22_8 : wr.cell? ⟨gb171, 8, none⟩ = some (.string a0_8) := (blk_cell BK171.out 8).trans rfl
                      have hfz22_0 := blk_frozen BK171.out 0
                      have hfz22_1 := blk_frozen BK171.out 1
                      have hfz22_2 := blk_frozen BK171.out 2
                      have hfz22_3 := blk_frozen BK171.out 3
                      have hfz22_4 := blk_frozen BK171.out 4
                      have hfz22_5 := blk_frozen BK171.out 5
                      have hfz22_6 := blk_frozen BK171.out 6
                      have hfz22_7 := blk_frozen BK171.out 7
                      have hfz22_8 := blk_frozen BK171.out 8
                      go_wp2
                      go_roundg k1
                      case measure => have := HK1.out; omega
                      case rel => exact ⟨(x5_1 ++ a0_6), (wrap64 (x6_1 + 1)), (by first | rfl | (simp; done) | (simp [*]; done) | (simp [bneNil_]; done)), (by first | rfl | (simp; done) | (simp [*]; done) | (simp [bneNil_]; done)), H', ⟨by have := HK1.out; omega⟩, ⟨by (with_reducible repeat (first | refine blk_drewN ?_ _ | refine blk_drew ?_ | refine blk_alloc ?_ _)); exact BK171.out⟩, ⟨by repeat (first | (with_reducible first | exact HB.out | apply below_alloc | apply pw_below_drewN | apply below_drew1 | refine below_set ?_ GE171.out) | exact HB.out)⟩⟩
                    · rw [if_neg c21] at H
                      exact absurd H (by simp)
                  · rw [if_neg c20] at H
                    have c20b0 : (((rd_T34 l1 x6_1).f0) == 5) = false := beq_eq_false_iff_ne.mpr c20
                    have c20b1 : (((rd_T34 l1 x6_1).f0) != 5) = true := bne_iff_ne.mpr c20
                    by_cases c23 : ((rd_T34 l1 x6_1).f0) = 6
                    · rw [if_pos c23] at H
                      have c23b0 : (((rd_T34 l1 x6_1).f0) == 6) = true := beq_iff_eq.mpr c23
                      have c23b1 : (((rd_T34 l1 x6_1).f0) != 6) = false := bne_eq_false_iff_eq.mpr c23
                      clear c23
                      by_cases c24 : x5_1.size + a0_7.size ≤ 9223372036854775807
                      · rw [if_pos c24] at H
                        have c24b0 := eq_true c24
                        have c24b1 : decide (x5_1.size + a0_7.size ≤ 9223372036854775807) = true := decide_eq_true c24
                        try have c24b2 : (9223372036854775807 < x5_1.size + a0_7.size) = False := eq_false (Nat.not_lt.2 c24)
                        have H' := Aside0.mk H
                        clear H
                        have p172 : 0 ≤ (x6_1 : Int) := of_decide_eq_true (by first | (with_reducible assumption) | assumption)
                        have q172 : x6_1 < (l1.length : Int) := of_decide_eq_true (by first | (with_reducible assumption) | assumption)
                        obtain ⟨ad172, e172, hx172_0, hx172_1⟩ := at_T34 HR1.out x6_1 p172 q172
                        cases e172
                        replace hx172_0 := (HB.out.cell (World.block_lt_of_cell? w _ hx172_0)).trans hx172_0
                        replace hx172_1 := (HB.out.cell (World.block_lt_of_cell? w _ hx172_1)).trans hx172_1
                        replace p172 := eq_true p172
                        replace q172 := eq_true q172
                        have hcz25_0 : wr.cell? ⟨gb171, 0, none⟩ = some (.int .i32 a0_0) := (blk_cell BK171.out 0).trans rfl
                        have hcz25_1 : wr.cell? ⟨gb171, 1, none⟩ = some (.string a0_1) := (blk_cell BK171.out 1).trans rfl
                        have hcz25_2 : wr.cell? ⟨gb171, 2, none⟩ = some (.string a0_2) := (blk_cell BK171.out 2).trans rfl
                        have hcz25_3 : wr.cell? ⟨gb171, 3, none⟩ = some (.string a0_3) := (blk_cell BK171.out 3).trans rfl
                        have hcz25_4 : wr.cell? ⟨gb171, 4, none⟩ = some (.string a0_4) := (blk_cell BK171.out 4).trans rfl
                        have hcz25_5 : wr.cell? ⟨gb171, 5, none⟩ = some (.string a0_5) := (blk_cell BK171.out 5).trans rfl
                        have hcz25_6 : wr.cell? ⟨gb171, 6, none⟩ = some (.string a0_6) := (blk_cell BK171.out 6).trans rfl
                        have hcz25_7 : wr.cell? ⟨gb171, 7, none⟩ = some (.string a0_7) := (blk_cell BK171.out 7).trans rfl
                        have hcz25_8 : wr.cell? ⟨gb171, 8, none⟩ = some (.string a0_8) := (blk_cell BK171.out 8).trans rfl
                        have hfz25_0 := blk_frozen BK171.out 0
                        have hfz25_1 := blk_frozen BK171.out 1
                        have hfz25_2 := blk_frozen BK171.out 2
                        have hfz25_3 := blk_frozen BK171.out 3
                        have hfz25_4 := blk_frozen BK171.out 4
                        have hfz25_5 := blk_frozen BK171.out 5
                        have hfz25_6 := blk_frozen BK171.out 6
                        have hfz25_7 := blk_frozen BK171.out 7
                        have hfz25_8 := blk_frozen BK171.out 8
                        go_wp2
                        go_roundg k1
                        case measure => have := HK1.out; omega
                        case rel => exact ⟨(x5_1 ++ a0_7), (wrap64 (x6_1 + 1)), (by first | rfl | (simp; done) | (simp [*]; done) | (simp [bneNil_]; done)), (by first | rfl | (simp; done) | (simp [*]; done) | (simp [bneNil_]; done)), H', ⟨by have := HK1.out; omega⟩, ⟨by (with_reducible repeat (first | refine blk_drewN ?_ _ | refine blk_drew ?_ | refine blk_alloc ?_ _)); exact BK171.out⟩, ⟨by repeat (first | (with_reducible first | exact HB.out | apply below_alloc | apply pw_below_drewN | apply below_drew1 | refine below_set ?_ GE171.out) | exact HB.out)⟩⟩
                      · rw [if_neg c24] at H
                        exact absurd H (by simp)
                    · rw [if_neg c23] at H
                      have c23b0 : (((rd_T34 l1 x6_1).f0) == 6) = false := beq_eq_false_iff_ne.mpr c23
                      have c23b1 : (((rd_T34 l1 x6_1).f0) != 6) = true := bne_iff_ne.mpr c23
                      have H' := Aside0.mk H
                      clear H
                      have p172 : 0 ≤ (x6_1 : Int) := of_decide_eq_true (by first | (with_reducible assumption) | assumption)
                      have q172 : x6_1 < (l1.length : Int) := of_decide_eq_true (by first | (with_reducible assumption) | assumption)
                      obtain ⟨ad172, e172, hx172_0, hx172_1⟩ := at_T34 HR1.out x6_1 p172 q172
                      cases e172
                      replace hx172_0 := (HB.out.cell (World.block_lt_of_cell? w _ hx172_0)).trans hx172_0
                      replace hx172_1 := (HB.out.cell (World.block_lt_of_cell? w _ hx172_1)).trans hx172_1
                      replace p172 := eq_true p172
                      replace q172 := eq_true q172
                      go_wp2
                      go_roundg k1
                      case measure => have := HK1.out; omega
                      case rel => exact ⟨(x5_1), (wrap64 (x6_1 + 1)), (by first | rfl | (simp; done) | (simp [*]; done) | (simp [bneNil_]; done)), (by first | rfl | (simp; done) | (simp [*]; done) | (simp [bneNil_]; done)), H', ⟨by have := HK1.out; omega⟩, ⟨by (with_reducible repeat (first | refine blk_drewN ?_ _ | refine blk_drew ?_ | refine blk_alloc ?_ _)); exact BK171.out⟩, ⟨by repeat (first | (with_reducible first | exact HB.out | apply below_alloc | apply pw_below_drewN | apply below_drew1 | refine below_set ?_ GE171.out) | exact HB.out)⟩⟩
        · rw [if_neg c5] at H
          exact absurd H (by simp)
      · rw [if_neg c4] at H
        have c4b0 : decide (x6_1 < (l1.length : Int)) = false := decide_eq_false c4
        clear c4
        obtain rfl := Option.some.inj H
        go_wp2
        go_ret
        exact ⟨by first | rfl | (simp [errW_none, errW_some] <;> rfl) | (simp [*, errW_none, errW_some] <;> rfl), by repeat (first | (with_reducible first | exact HB.out | apply below_alloc | apply pw_below_drewN | apply below_drew1 | refine below_set ?_ GE171.out) | exact HB.out)⟩

end Go.Proofs.YtngaeggnjfhnfaaDoor.Print
