/- Functions of the program as Lean functions, and that the program's calls answer so: printed by this session's own program (wip/tools/pext.py) out of the translation. Conditions: each theorem's own. Not trusted: Lean checks it. -/
import Derived.Test.YtenifjkiiaahiaaDoorPrint0
import Derived.Test.YtenifjkiiaahiaaDoorPrint4
import Derived.Test.YtenifjkiiaahiaaDoorPrint6
import Derived.Test.YtenifjkiiaahiaaDoorFD
namespace Go.Proofs.YtenifjkiiaahiaaDoor.Print
open Go.RowKit Go.Proofs.YtenifjkiiaahiaaDoorW.PrintWords Go.Proofs.YtenifjkiiaahiaaDoorW.PrintLast Go.Proofs.YtenifjkiiaahiaaDoorW.PrintMore
attribute [local go_sem] max2_int min2_int max_two min_two max_three min_three max_four min_four   -- for this text's walks alone
set_option linter.unusedVariables false
set_option linter.unusedSimpArgs false

/-! ### figureheadlaw12_DigitPuts: function 9 -/
mutual
def figureheadlaw12_DigitPuts.j0 : Nat → Int → ByteArray → Bool → Option (Bool)
  | 0, _, _, _ => none
  | k + 1, x0, x1, x19 => if x19 = true then ((figureheadlaw12_answers.f k).bind fun t228 => (some t228)) else ((digit_Put.f x0 x1).bind fun t229 => (if x1.toList = ([] : List UInt8) then (figureheadlaw12_DigitPuts.j1 k x0 x1 t229 false) else ((figureheadref05_Digits.f k x1).bind fun t230 => (figureheadlaw12_DigitPuts.j1 k x0 x1 t229 (!t230)))))
def figureheadlaw12_DigitPuts.j1 : Nat → Int → ByteArray → ByteArray → Bool → Option (Bool)
  | 0, _, _, _, _ => none
  | k + 1, x0, x1, x5, x30 => if x30 = true then ((figureheadlaw12_answers.f k).bind fun t231 => (if t231 = true then (some (x5.toList == ([] : List UInt8))) else (some false))) else ((digit_Get.f x0 x5).bind fun bt232 => ((figureheadlaw12_answers.f k).bind fun t234 => (if t234 = true then ((figureheadref11_Put.f k x0 x1).bind fun t235 => (if x5.toList = t235.toList then (if (bt232.2 == (x1.toList != ([] : List UInt8))) = true then (if bt232.1.toList = x1.toList then ((digit_Run.f x0 x5).bind fun t236 => (some (t236 == (x5.size : Int)))) else (some false)) else (some false)) else (some false))) else (some false))))
end
def figureheadlaw12_DigitPuts.f (k : Nat) (a0 : Int) (a1 : ByteArray) : Option (Bool) := if a0 < 0 then (figureheadlaw12_DigitPuts.j0 k a0 a1 true) else ((figureheadref11_Zero.f k a0).bind fun t227 => (if t227 = true then (figureheadlaw12_DigitPuts.j0 k a0 a1 (decide ((a1.size : Int) > 500))) else (figureheadlaw12_DigitPuts.j0 k a0 a1 true)))
theorem figureheadlaw12_DigitPuts.mono_l : ∀ k, (∀ y0 y1 y2, LeO (figureheadlaw12_DigitPuts.j0 k y0 y1 y2) (figureheadlaw12_DigitPuts.j0 (k + 1) y0 y1 y2)) ∧ (∀ y0 y1 y2 y3, LeO (figureheadlaw12_DigitPuts.j1 k y0 y1 y2 y3) (figureheadlaw12_DigitPuts.j1 (k + 1) y0 y1 y2 y3))
  | 0 => ⟨fun _ _ _ r h => by simp [figureheadlaw12_DigitPuts.j0] at h, fun _ _ _ _ r h => by simp [figureheadlaw12_DigitPuts.j1] at h⟩
  | k + 1 => by
    obtain ⟨ih0, ih1⟩ := figureheadlaw12_DigitPuts.mono_l k
    refine ⟨?_, ?_⟩
    · intro y0 y1 y2
      unfold figureheadlaw12_DigitPuts.j0
      repeat' first
      | (with_reducible exact ih0 _ _ _)
      | (with_reducible exact ih1 _ _ _ _)
      | (with_reducible exact figureheadlaw12_answers.mono _)
      | (with_reducible exact figureheadref05_Digits.mono _ _)
      | (with_reducible exact figureheadref11_Put.mono _ _ _)
      | (with_reducible exact figureheadref11_Zero.mono _ _)
      | (with_reducible exact LeO.refl _)
      | (with_reducible exact LeO.none _)
      | (with_reducible refine LeO.ite ?_ ?_)
      | (with_reducible refine LeO.bind ?_ (fun _ => ?_))
      | exact ih0 _ _ _
      | exact ih1 _ _ _ _
      | exact figureheadlaw12_answers.mono _
      | exact figureheadref05_Digits.mono _ _
      | exact figureheadref11_Put.mono _ _ _
      | exact figureheadref11_Zero.mono _ _
      | exact LeO.none _
      | refine LeO.ite ?_ ?_
      | refine LeO.bind ?_ (fun _ => ?_)
    · intro y0 y1 y2 y3
      unfold figureheadlaw12_DigitPuts.j1
      repeat' first
      | (with_reducible exact ih0 _ _ _)
      | (with_reducible exact ih1 _ _ _ _)
      | (with_reducible exact figureheadlaw12_answers.mono _)
      | (with_reducible exact figureheadref05_Digits.mono _ _)
      | (with_reducible exact figureheadref11_Put.mono _ _ _)
      | (with_reducible exact figureheadref11_Zero.mono _ _)
      | (with_reducible exact LeO.refl _)
      | (with_reducible exact LeO.none _)
      | (with_reducible refine LeO.ite ?_ ?_)
      | (with_reducible refine LeO.bind ?_ (fun _ => ?_))
      | exact ih0 _ _ _
      | exact ih1 _ _ _ _
      | exact figureheadlaw12_answers.mono _
      | exact figureheadref05_Digits.mono _ _
      | exact figureheadref11_Put.mono _ _ _
      | exact figureheadref11_Zero.mono _ _
      | exact LeO.none _
      | refine LeO.ite ?_ ?_
      | refine LeO.bind ?_ (fun _ => ?_)
theorem figureheadlaw12_DigitPuts.mono : ∀ a0 a1 k, LeO (figureheadlaw12_DigitPuts.f k a0 a1) (figureheadlaw12_DigitPuts.f (k + 1) a0 a1) := by
  intro a0 a1 k
  obtain ⟨ih0, ih1⟩ := figureheadlaw12_DigitPuts.mono_l k
  unfold figureheadlaw12_DigitPuts.f
  repeat' first
      | (with_reducible exact ih0 _ _ _)
      | (with_reducible exact ih1 _ _ _ _)
      | (with_reducible exact figureheadlaw12_answers.mono _)
      | (with_reducible exact figureheadref05_Digits.mono _ _)
      | (with_reducible exact figureheadref11_Put.mono _ _ _)
      | (with_reducible exact figureheadref11_Zero.mono _ _)
      | (with_reducible exact LeO.refl _)
      | (with_reducible exact LeO.none _)
      | (with_reducible refine LeO.ite ?_ ?_)
      | (with_reducible refine LeO.bind ?_ (fun _ => ?_))
      | exact ih0 _ _ _
      | exact ih1 _ _ _ _
      | exact figureheadlaw12_answers.mono _
      | exact figureheadref05_Digits.mono _ _
      | exact figureheadref11_Put.mono _ _ _
      | exact figureheadref11_Zero.mono _ _
      | exact LeO.none _
      | refine LeO.ite ?_ ?_
      | refine LeO.bind ?_ (fun _ => ?_)
set_option maxHeartbeats 8000000 in
set_option maxRecDepth 100000 in
theorem figureheadlaw12_DigitPuts.calls (k : Nat) (a0 : Int) (a1 : ByteArray) (r : Bool) (w : World) (hT : Tabs w) (h : figureheadlaw12_DigitPuts.f k a0 a1 = some r) :
    Calls Tryd.prog 9 #[.int .i32 a0, .string a1] w fun e w' => e = .returned (.bool r) ∧ Below w.heap.size w w' := by
  have HB := Aside0.mk (Below.refl w.heap.size w)
  have HT := Aside0.mk hT
  clear hT
  have H : (if a0 < 0 then (figureheadlaw12_DigitPuts.j0 k a0 a1 true) else ((figureheadref11_Zero.f k a0).bind fun t227 => (if t227 = true then (figureheadlaw12_DigitPuts.j0 k a0 a1 (decide ((a1.size : Int) > 500))) else (figureheadlaw12_DigitPuts.j0 k a0 a1 true)))) = some r := h
  clear h
  have HC3 := Aside0.mk H
  clear H
  go_enter Tryd.func9, Tryd.ntmps9
  go_upto_region 1 with (fail)
  go_cut [19] (fun v19 wc => ∃ (kq : Nat) (x19_2 : Bool), v19 = .bool x19_2 ∧ Aside0 (figureheadlaw12_DigitPuts.j0 kq a0 a1 x19_2 = some r) ∧ Aside0 (kq ≤ k) ∧ Aside0 (Below w.heap.size w wc))
  case first =>
    have H := HC3.out
    clear HC3
    by_cases c4 : a0 < 0
    · rw [if_pos c4] at H
      have c4b0 : decide (a0 < 0) = true := decide_eq_true c4
      clear c4
      (first | rw [c4b0] | (simp only [i64_w, i32_w]; rw [c4b0]) | skip)
      have H' := Aside0.mk H
      clear H
      go_wp2
      go_meet
      case rel => exact ⟨_, (true), (by first | rfl | (simp; done) | (simp [*]; done) | (simp [bneNil_]; done)), H', ⟨by first | omega | exact Nat.le_refl _⟩, ⟨by repeat (first | (with_reducible first | exact HB.out | apply below_alloc | apply pw_below_drewN | apply below_drew1) | exact HB.out)⟩⟩
    · rw [if_neg c4] at H
      have c4b0 : decide (a0 < 0) = false := decide_eq_false c4
      clear c4
      (first | rw [c4b0] | (simp only [i64_w, i32_w]; rw [c4b0]) | skip)
      replace H := Option.bind_eq_some_iff.mp H
      obtain ⟨t227, A50, H⟩ := H
      replace H : (if t227 = true then (figureheadlaw12_DigitPuts.j0 k a0 a1 (decide ((a1.size : Int) > 500))) else (figureheadlaw12_DigitPuts.j0 k a0 a1 true)) = some r := H
      have A5 := Aside0.mk A50
      clear A50
      by_cases c6 : t227 = true
      · subst c6
        have H1 : (figureheadlaw12_DigitPuts.j0 k a0 a1 (decide ((a1.size : Int) > 500))) = some r := by rw [if_pos rfl] at H; exact H
        clear H
        have H := H1
        clear H1
        have H' := Aside0.mk H
        clear H
        go_wp2_with (first | (go_at_call 24; (with_reducible refine (figureheadref11_Zero.calls k a0 true _ A5.out).mono ?_); rintro e w' ⟨rfl, ⟨nd, rfl⟩⟩))
        go_meet
        case rel => exact ⟨_, (decide ((a1.size : Int) > 500)), (by first | rfl | (simp; done) | (simp [*]; done) | (simp [bneNil_]; done)), H', ⟨by first | omega | exact Nat.le_refl _⟩, ⟨by repeat (first | (with_reducible first | exact HB.out | apply below_alloc | apply pw_below_drewN | apply below_drew1) | exact HB.out)⟩⟩
      · replace c6 := Bool.eq_false_iff.mpr c6
        subst c6
        have H1 : (figureheadlaw12_DigitPuts.j0 k a0 a1 true) = some r := by rw [if_neg (show ¬ (false = true) by decide)] at H; exact H
        clear H
        have H := H1
        clear H1
        have H' := Aside0.mk H
        clear H
        go_wp2_with (first | (go_at_call 24; (with_reducible refine (figureheadref11_Zero.calls k a0 false _ A5.out).mono ?_); rintro e w' ⟨rfl, ⟨nd, rfl⟩⟩))
        go_meet
        case rel => exact ⟨_, (true), (by first | rfl | (simp; done) | (simp [*]; done) | (simp [bneNil_]; done)), H', ⟨by first | omega | exact Nat.le_refl _⟩, ⟨by repeat (first | (with_reducible first | exact HB.out | apply below_alloc | apply pw_below_drewN | apply below_drew1) | exact HB.out)⟩⟩
  case rest =>
    clear HC3
    try clear p2
    try clear c4
    try clear c4b0
    try clear c6
    obtain ⟨kq, x19_2, rfl, HA, HJ2, HB⟩ := hcut
    cases kq with
    | zero => exact absurd HA.out (by simp [figureheadlaw12_DigitPuts.j0])
    | succ kj2 =>
      have H := HA.out
      clear HA
      simp only [figureheadlaw12_DigitPuts.j0] at H
      by_cases c7 : x19_2 = true
      · subst c7
        have H1 : ((figureheadlaw12_answers.f kj2).bind fun t228 => (some t228)) = some r := by rw [if_pos rfl] at H; exact H
        clear H
        have H := H1
        clear H1
        replace H := Option.bind_eq_some_iff.mp H
        obtain ⟨t228, A80, H⟩ := H
        replace H : (some t228) = some r := H
        have A8 := Aside0.mk A80
        clear A80
        obtain rfl := Option.some.inj H
        go_wp2_with (first | ((with_reducible refine gate_callee (f := 25) rfl ?_); refine goesL_ (some 20) rfl rfl Tryd.func25 (by kernel_rfl) rfl #[] rfl (by (try simp only [List.map_toArray, List.map_cons, List.map_nil]); first | done | rfl | (simp only [List.length_drop, List.length_take]; rfl)) ?_; (with_reducible refine (figureheadlaw12_answers.calls kj2  t228 _ ?side1 A8.out).mono ?_); (case side1 => exact Tabs_below HT.out (by repeat (first | (with_reducible first | exact HB.out | apply below_alloc | apply pw_below_drewN | apply below_drew1) | exact HB.out))); rintro e w9 ⟨rfl, hb⟩; refine ⟨_, rfl, ?_⟩; have n0_ := Aside0.mk (below_step (by repeat (first | (with_reducible first | exact HB.out | apply below_alloc | apply pw_below_drewN | apply below_drew1) | exact HB.out)) hb); clear HB; have HB := n0_; clear n0_; (try clear hb); (try clear hb2); (try clear hk); (try clear hi)))
        go_ret
        exact ⟨by first | rfl | (simp [errW_none, errW_some] <;> rfl) | (simp [*, errW_none, errW_some] <;> rfl), by repeat (first | (with_reducible first | exact HB.out | apply below_alloc | apply pw_below_drewN | apply below_drew1) | exact HB.out)⟩
      · replace c7 := Bool.eq_false_iff.mpr c7
        subst c7
        have H1 : ((digit_Put.f a0 a1).bind fun t229 => (if a1.toList = ([] : List UInt8) then (figureheadlaw12_DigitPuts.j1 kj2 a0 a1 t229 false) else ((figureheadref05_Digits.f kj2 a1).bind fun t230 => (figureheadlaw12_DigitPuts.j1 kj2 a0 a1 t229 (!t230))))) = some r := by rw [if_neg (show ¬ (false = true) by decide)] at H; exact H
        clear H
        have H := H1
        clear H1
        replace H := Option.bind_eq_some_iff.mp H
        obtain ⟨t229, A100, H⟩ := H
        replace H : (if a1.toList = ([] : List UInt8) then (figureheadlaw12_DigitPuts.j1 kj2 a0 a1 t229 false) else ((figureheadref05_Digits.f kj2 a1).bind fun t230 => (figureheadlaw12_DigitPuts.j1 kj2 a0 a1 t229 (!t230)))) = some r := H
        have A10 := Aside0.mk A100
        clear A100
        have HC11 := Aside0.mk H
        clear H
        go_upto_region 4 with (first | ((with_reducible refine gate_callee (f := 28) rfl ?_); refine goesL_ (some 23) rfl rfl Tryd.func28 (by kernel_rfl) rfl #[.int .i32 a0, .string a1] rfl (by (try simp only [List.map_toArray, List.map_cons, List.map_nil]); first | done | rfl | (simp only [List.length_drop, List.length_take]; rfl)) ?_; (with_reducible refine (digit_Put.calls a0 a1 t229 _ A10.out).mono ?_); rintro e w12 ⟨rfl, hb⟩; refine ⟨_, rfl, ?_⟩; have n0_ := Aside0.mk (below_step (by repeat (first | (with_reducible first | exact HB.out | apply below_alloc | apply pw_below_drewN | apply below_drew1) | exact HB.out)) hb); clear HB; have HB := n0_; clear n0_; (try clear hb); (try clear hb2); (try clear hk); (try clear hi)))
        (try simp only [Act.put, List.setIfInBounds_toArray, List.set_cons_zero, List.set_cons_succ])
        go_cut [30] (fun v30 wc => ∃ (kq : Nat) (x30_10 : Bool), v30 = .bool x30_10 ∧ Aside0 (figureheadlaw12_DigitPuts.j1 kq a0 a1 t229 x30_10 = some r) ∧ Aside0 (kq ≤ kj2) ∧ Aside0 (Below w.heap.size w wc))
        case first =>
          have H := HC11.out
          clear HC11
          by_cases c13 : a1.toList = ([] : List UInt8)
          · rw [if_pos c13] at H
            have c13b0 : (a1.toList == ([] : List UInt8)) = true := beq_iff_eq.mpr c13
            have c13b1 : (a1.toList != ([] : List UInt8)) = false := bne_eq_false_iff_eq.mpr c13
            clear c13
            (first | rw [c13b0] | (simp only [i64_w, i32_w]; rw [c13b0]) | skip)
            have H' := Aside0.mk H
            clear H
            go_wp2
            go_meet
            case rel => exact ⟨_, (false), (by first | rfl | (simp; done) | (simp [*]; done) | (simp [bneNil_]; done)), H', ⟨by have := HJ2.out; first | omega | exact Nat.le_refl _⟩, ⟨by repeat (first | (with_reducible first | exact HB.out | apply below_alloc | apply pw_below_drewN | apply below_drew1) | exact HB.out)⟩⟩
          · rw [if_neg c13] at H
            have c13b0 : (a1.toList == ([] : List UInt8)) = false := beq_eq_false_iff_ne.mpr c13
            have c13b1 : (a1.toList != ([] : List UInt8)) = true := bne_iff_ne.mpr c13
            (first | rw [c13b0] | (simp only [i64_w, i32_w]; rw [c13b0]) | skip)
            replace H := Option.bind_eq_some_iff.mp H
            obtain ⟨t230, A140, H⟩ := H
            replace H : (figureheadlaw12_DigitPuts.j1 kj2 a0 a1 t229 (!t230)) = some r := H
            have A14 := Aside0.mk A140
            clear A140
            have H' := Aside0.mk H
            clear H
            go_wp2_with (first | (go_at_call 29; (with_reducible refine (figureheadref05_Digits.calls kj2 a1 t230 _ A14.out).mono ?_); rintro e w' ⟨rfl, ⟨nd, rfl⟩⟩))
            go_meet
            case rel => exact ⟨_, (!t230), (by first | rfl | (simp; done) | (simp [*]; done) | (simp [bneNil_]; done)), H', ⟨by have := HJ2.out; first | omega | exact Nat.le_refl _⟩, ⟨by repeat (first | (with_reducible first | exact HB.out | apply below_alloc | apply pw_below_drewN | apply below_drew1) | exact HB.out)⟩⟩
        case rest =>
          clear HC11
          try clear c1
          try clear c2
          try clear p2
          try clear c4
          try clear c4b0
          try clear c6
          try clear c7
          try clear c9
          try clear c13
          try clear c13b0
          try clear c13b1
          try clear p2
          obtain ⟨kq, x30_10, rfl, HA, HJ10, HB⟩ := hcut
          cases kq with
          | zero => exact absurd HA.out (by simp [figureheadlaw12_DigitPuts.j1])
          | succ kj10 =>
            have H := HA.out
            clear HA
            simp only [figureheadlaw12_DigitPuts.j1] at H
            by_cases c15 : x30_10 = true
            · subst c15
              have H1 : ((figureheadlaw12_answers.f kj10).bind fun t231 => (if t231 = true then (some (t229.toList == ([] : List UInt8))) else (some false))) = some r := by rw [if_pos rfl] at H; exact H
              clear H
              have H := H1
              clear H1
              replace H := Option.bind_eq_some_iff.mp H
              obtain ⟨t231, A160, H⟩ := H
              replace H : (if t231 = true then (some (t229.toList == ([] : List UInt8))) else (some false)) = some r := H
              have A16 := Aside0.mk A160
              clear A160
              by_cases c17 : t231 = true
              · subst c17
                have H1 : (some (t229.toList == ([] : List UInt8))) = some r := by rw [if_pos rfl] at H; exact H
                clear H
                have H := H1
                clear H1
                obtain rfl := Option.some.inj H
                go_wp2_with (first | ((with_reducible refine gate_callee (f := 25) rfl ?_); refine goesL_ (some 31) rfl rfl Tryd.func25 (by kernel_rfl) rfl #[] rfl (by (try simp only [List.map_toArray, List.map_cons, List.map_nil]); first | done | rfl | (simp only [List.length_drop, List.length_take]; rfl)) ?_; (with_reducible refine (figureheadlaw12_answers.calls kj10  true _ ?side1 A16.out).mono ?_); (case side1 => exact Tabs_below HT.out (by repeat (first | (with_reducible first | exact HB.out | apply below_alloc | apply pw_below_drewN | apply below_drew1) | exact HB.out))); rintro e w18 ⟨rfl, hb⟩; refine ⟨_, rfl, ?_⟩; have n0_ := Aside0.mk (below_step (by repeat (first | (with_reducible first | exact HB.out | apply below_alloc | apply pw_below_drewN | apply below_drew1) | exact HB.out)) hb); clear HB; have HB := n0_; clear n0_; (try clear hb); (try clear hb2); (try clear hk); (try clear hi)))
                go_ret
                exact ⟨by first | rfl | (simp [errW_none, errW_some] <;> rfl) | (simp [*, errW_none, errW_some] <;> rfl), by repeat (first | (with_reducible first | exact HB.out | apply below_alloc | apply pw_below_drewN | apply below_drew1) | exact HB.out)⟩
              · replace c17 := Bool.eq_false_iff.mpr c17
                subst c17
                have H1 : (some false) = some r := by rw [if_neg (show ¬ (false = true) by decide)] at H; exact H
                clear H
                have H := H1
                clear H1
                obtain rfl := Option.some.inj H
                go_wp2_with (first | ((with_reducible refine gate_callee (f := 25) rfl ?_); refine goesL_ (some 31) rfl rfl Tryd.func25 (by kernel_rfl) rfl #[] rfl (by (try simp only [List.map_toArray, List.map_cons, List.map_nil]); first | done | rfl | (simp only [List.length_drop, List.length_take]; rfl)) ?_; (with_reducible refine (figureheadlaw12_answers.calls kj10  false _ ?side1 A16.out).mono ?_); (case side1 => exact Tabs_below HT.out (by repeat (first | (with_reducible first | exact HB.out | apply below_alloc | apply pw_below_drewN | apply below_drew1) | exact HB.out))); rintro e w19 ⟨rfl, hb⟩; refine ⟨_, rfl, ?_⟩; have n0_ := Aside0.mk (below_step (by repeat (first | (with_reducible first | exact HB.out | apply below_alloc | apply pw_below_drewN | apply below_drew1) | exact HB.out)) hb); clear HB; have HB := n0_; clear n0_; (try clear hb); (try clear hb2); (try clear hk); (try clear hi)))
                go_ret
                exact ⟨by first | rfl | (simp [errW_none, errW_some] <;> rfl) | (simp [*, errW_none, errW_some] <;> rfl), by repeat (first | (with_reducible first | exact HB.out | apply below_alloc | apply pw_below_drewN | apply below_drew1) | exact HB.out)⟩
            · replace c15 := Bool.eq_false_iff.mpr c15
              subst c15
              have H1 : ((digit_Get.f a0 t229).bind fun bt232 => ((figureheadlaw12_answers.f kj10).bind fun t234 => (if t234 = true then ((figureheadref11_Put.f kj10 a0 a1).bind fun t235 => (if t229.toList = t235.toList then (if (bt232.2 == (a1.toList != ([] : List UInt8))) = true then (if bt232.1.toList = a1.toList then ((digit_Run.f a0 t229).bind fun t236 => (some (t236 == (t229.size : Int)))) else (some false)) else (some false)) else (some false))) else (some false)))) = some r := by rw [if_neg (show ¬ (false = true) by decide)] at H; exact H
              clear H
              have H := H1
              clear H1
              replace H := Option.bind_eq_some_iff.mp H
              obtain ⟨⟨t232, t233⟩, A200, H⟩ := H
              replace H : ((figureheadlaw12_answers.f kj10).bind fun t234 => (if t234 = true then ((figureheadref11_Put.f kj10 a0 a1).bind fun t235 => (if t229.toList = t235.toList then (if (t233 == (a1.toList != ([] : List UInt8))) = true then (if t232.toList = a1.toList then ((digit_Run.f a0 t229).bind fun t236 => (some (t236 == (t229.size : Int)))) else (some false)) else (some false)) else (some false))) else (some false))) = some r := H
              have A20 := Aside0.mk A200
              clear A200
              replace H := Option.bind_eq_some_iff.mp H
              obtain ⟨t234, A210, H⟩ := H
              replace H : (if t234 = true then ((figureheadref11_Put.f kj10 a0 a1).bind fun t235 => (if t229.toList = t235.toList then (if (t233 == (a1.toList != ([] : List UInt8))) = true then (if t232.toList = a1.toList then ((digit_Run.f a0 t229).bind fun t236 => (some (t236 == (t229.size : Int)))) else (some false)) else (some false)) else (some false))) else (some false)) = some r := H
              have A21 := Aside0.mk A210
              clear A210
              by_cases c22 : t234 = true
              · subst c22
                have H1 : ((figureheadref11_Put.f kj10 a0 a1).bind fun t235 => (if t229.toList = t235.toList then (if (t233 == (a1.toList != ([] : List UInt8))) = true then (if t232.toList = a1.toList then ((digit_Run.f a0 t229).bind fun t236 => (some (t236 == (t229.size : Int)))) else (some false)) else (some false)) else (some false))) = some r := by rw [if_pos rfl] at H; exact H
                clear H
                have H := H1
                clear H1
                replace H := Option.bind_eq_some_iff.mp H
                obtain ⟨t235, A230, H⟩ := H
                replace H : (if t229.toList = t235.toList then (if (t233 == (a1.toList != ([] : List UInt8))) = true then (if t232.toList = a1.toList then ((digit_Run.f a0 t229).bind fun t236 => (some (t236 == (t229.size : Int)))) else (some false)) else (some false)) else (some false)) = some r := H
                have A23 := Aside0.mk A230
                clear A230
                by_cases c24 : t229.toList = t235.toList
                · rw [if_pos c24] at H
                  have c24b0 : (t229.toList == t235.toList) = true := beq_iff_eq.mpr c24
                  have c24b1 : (t229.toList != t235.toList) = false := bne_eq_false_iff_eq.mpr c24
                  clear c24
                  by_cases c25 : (t233 == (a1.toList != ([] : List UInt8))) = true
                  · rw [if_pos c25] at H
                    have c25b0 : (t233 == (a1.toList != ([] : List UInt8))) = true := c25
                    (try (have c25b1 : decide (t233 = (a1.toList != ([] : List UInt8))) = true := by simpa using c25))
                    (try (have c25b2 : (t233 == (a1.toList != ([] : List UInt8))) = true := by simpa using c25))
                    (try (have c25b3 : t233 = !a1.toList.isEmpty := by simpa [bneNil_] using c25))
                    clear c25
                    by_cases c26 : t232.toList = a1.toList
                    · rw [if_pos c26] at H
                      have c26b0 : (t232.toList == a1.toList) = true := beq_iff_eq.mpr c26
                      have c26b1 : (t232.toList != a1.toList) = false := bne_eq_false_iff_eq.mpr c26
                      clear c26
                      replace H := Option.bind_eq_some_iff.mp H
                      obtain ⟨t236, A270, H⟩ := H
                      replace H : (some (t236 == (t229.size : Int))) = some r := H
                      have A27 := Aside0.mk A270
                      clear A270
                      obtain rfl := Option.some.inj H
                      go_wp2_with (first | ((with_reducible refine gate_callee (f := 30) rfl ?_); refine goesL_ (some 39) rfl rfl Tryd.func30 (by kernel_rfl) rfl #[.int .i32 a0, .string t229] rfl (by (try simp only [List.map_toArray, List.map_cons, List.map_nil]); first | done | rfl | (simp only [List.length_drop, List.length_take]; rfl)) ?_; (with_reducible refine (digit_Get.calls a0 t229 t232 t233 _ ?side1 A20.out).mono ?_); (case side1 => exact Tabs_below HT.out (by repeat (first | (with_reducible first | exact HB.out | apply below_alloc | apply pw_below_drewN | apply below_drew1) | exact HB.out))); rintro e w28 ⟨rfl, hb⟩; refine ⟨_, rfl, ?_⟩; have n0_ := Aside0.mk (below_step (by repeat (first | (with_reducible first | exact HB.out | apply below_alloc | apply pw_below_drewN | apply below_drew1) | exact HB.out)) hb); clear HB; have HB := n0_; clear n0_; (try clear hb); (try clear hb2); (try clear hk); (try clear hi)) | ((with_reducible refine gate_callee (f := 25) rfl ?_); refine goesL_ (some 42) rfl rfl Tryd.func25 (by kernel_rfl) rfl #[] rfl (by (try simp only [List.map_toArray, List.map_cons, List.map_nil]); first | done | rfl | (simp only [List.length_drop, List.length_take]; rfl)) ?_; (with_reducible refine (figureheadlaw12_answers.calls kj10  true _ ?side1 A21.out).mono ?_); (case side1 => exact Tabs_below HT.out (by repeat (first | (with_reducible first | exact HB.out | apply below_alloc | apply pw_below_drewN | apply below_drew1) | exact HB.out))); rintro e w29 ⟨rfl, hb⟩; refine ⟨_, rfl, ?_⟩; have n0_ := Aside0.mk (below_step (by repeat (first | (with_reducible first | exact HB.out | apply below_alloc | apply pw_below_drewN | apply below_drew1) | exact HB.out)) hb); clear HB; have HB := n0_; clear n0_; (try clear hb); (try clear hb2); (try clear hk); (try clear hi)) | (go_at_call 31; (with_reducible refine (figureheadref11_Put.calls kj10 a0 a1 t235 _ A23.out).mono ?_); rintro e w30 ⟨rfl, hb⟩; have n0_ := Aside0.mk (below_step (by repeat (first | (with_reducible first | exact HB.out | apply below_alloc | apply pw_below_drewN | apply below_drew1) | exact HB.out)) hb); clear HB; have HB := n0_; clear n0_; (try clear hb); (try clear hb2); (try clear hk); (try clear hi)) | (go_at_call 32; (with_reducible refine (digit_Run.calls a0 t229 t236 _ ?side1 A27.out).mono ?_); (case side1 => exact Tabs_below HT.out (by repeat (first | (with_reducible first | exact HB.out | apply below_alloc | apply pw_below_drewN | apply below_drew1) | exact HB.out))); rintro e w31 ⟨rfl, hb⟩; have n0_ := Aside0.mk (below_step (by repeat (first | (with_reducible first | exact HB.out | apply below_alloc | apply pw_below_drewN | apply below_drew1) | exact HB.out)) hb); clear HB; have HB := n0_; clear n0_; (try clear hb); (try clear hb2); (try clear hk); (try clear hi)))
                      go_ret
                      exact ⟨by first | rfl | (simp [errW_none, errW_some] <;> rfl) | (simp [*, errW_none, errW_some] <;> rfl), by repeat (first | (with_reducible first | exact HB.out | apply below_alloc | apply pw_below_drewN | apply below_drew1) | exact HB.out)⟩
                    · rw [if_neg c26] at H
                      have c26b0 : (t232.toList == a1.toList) = false := beq_eq_false_iff_ne.mpr c26
                      have c26b1 : (t232.toList != a1.toList) = true := bne_iff_ne.mpr c26
                      obtain rfl := Option.some.inj H
                      go_wp2_with (first | ((with_reducible refine gate_callee (f := 30) rfl ?_); refine goesL_ (some 39) rfl rfl Tryd.func30 (by kernel_rfl) rfl #[.int .i32 a0, .string t229] rfl (by (try simp only [List.map_toArray, List.map_cons, List.map_nil]); first | done | rfl | (simp only [List.length_drop, List.length_take]; rfl)) ?_; (with_reducible refine (digit_Get.calls a0 t229 t232 t233 _ ?side1 A20.out).mono ?_); (case side1 => exact Tabs_below HT.out (by repeat (first | (with_reducible first | exact HB.out | apply below_alloc | apply pw_below_drewN | apply below_drew1) | exact HB.out))); rintro e w32 ⟨rfl, hb⟩; refine ⟨_, rfl, ?_⟩; have n0_ := Aside0.mk (below_step (by repeat (first | (with_reducible first | exact HB.out | apply below_alloc | apply pw_below_drewN | apply below_drew1) | exact HB.out)) hb); clear HB; have HB := n0_; clear n0_; (try clear hb); (try clear hb2); (try clear hk); (try clear hi)) | ((with_reducible refine gate_callee (f := 25) rfl ?_); refine goesL_ (some 42) rfl rfl Tryd.func25 (by kernel_rfl) rfl #[] rfl (by (try simp only [List.map_toArray, List.map_cons, List.map_nil]); first | done | rfl | (simp only [List.length_drop, List.length_take]; rfl)) ?_; (with_reducible refine (figureheadlaw12_answers.calls kj10  true _ ?side1 A21.out).mono ?_); (case side1 => exact Tabs_below HT.out (by repeat (first | (with_reducible first | exact HB.out | apply below_alloc | apply pw_below_drewN | apply below_drew1) | exact HB.out))); rintro e w33 ⟨rfl, hb⟩; refine ⟨_, rfl, ?_⟩; have n0_ := Aside0.mk (below_step (by repeat (first | (with_reducible first | exact HB.out | apply below_alloc | apply pw_below_drewN | apply below_drew1) | exact HB.out)) hb); clear HB; have HB := n0_; clear n0_; (try clear hb); (try clear hb2); (try clear hk); (try clear hi)) | (go_at_call 31; (with_reducible refine (figureheadref11_Put.calls kj10 a0 a1 t235 _ A23.out).mono ?_); rintro e w34 ⟨rfl, hb⟩; have n0_ := Aside0.mk (below_step (by repeat (first | (with_reducible first | exact HB.out | apply below_alloc | apply pw_below_drewN | apply below_drew1) | exact HB.out)) hb); clear HB; have HB := n0_; clear n0_; (try clear hb); (try clear hb2); (try clear hk); (try clear hi)))
                      go_ret
                      exact ⟨by first | rfl | (simp [errW_none, errW_some] <;> rfl) | (simp [*, errW_none, errW_some] <;> rfl), by repeat (first | (with_reducible first | exact HB.out | apply below_alloc | apply pw_below_drewN | apply below_drew1) | exact HB.out)⟩
                  · rw [if_neg c25] at H
                    have c25b0 : (t233 == (a1.toList != ([] : List UInt8))) = false := by simpa using c25
                    (try (have c25b1 : decide (t233 = (a1.toList != ([] : List UInt8))) = false := by simpa using c25))
                    (try (have c25b2 : (t233 == (a1.toList != ([] : List UInt8))) = false := by simpa using c25))
                    (try (have c25b3 : ¬ (t233 = (a1.toList != ([] : List UInt8))) := by simpa using c25))
                    (try (have c25b4 : ¬ (t233 = !a1.toList.isEmpty) := by simpa [bneNil_] using c25))
                    clear c25
                    obtain rfl := Option.some.inj H
                    go_wp2_with (first | ((with_reducible refine gate_callee (f := 30) rfl ?_); refine goesL_ (some 39) rfl rfl Tryd.func30 (by kernel_rfl) rfl #[.int .i32 a0, .string t229] rfl (by (try simp only [List.map_toArray, List.map_cons, List.map_nil]); first | done | rfl | (simp only [List.length_drop, List.length_take]; rfl)) ?_; (with_reducible refine (digit_Get.calls a0 t229 t232 t233 _ ?side1 A20.out).mono ?_); (case side1 => exact Tabs_below HT.out (by repeat (first | (with_reducible first | exact HB.out | apply below_alloc | apply pw_below_drewN | apply below_drew1) | exact HB.out))); rintro e w35 ⟨rfl, hb⟩; refine ⟨_, rfl, ?_⟩; have n0_ := Aside0.mk (below_step (by repeat (first | (with_reducible first | exact HB.out | apply below_alloc | apply pw_below_drewN | apply below_drew1) | exact HB.out)) hb); clear HB; have HB := n0_; clear n0_; (try clear hb); (try clear hb2); (try clear hk); (try clear hi)) | ((with_reducible refine gate_callee (f := 25) rfl ?_); refine goesL_ (some 42) rfl rfl Tryd.func25 (by kernel_rfl) rfl #[] rfl (by (try simp only [List.map_toArray, List.map_cons, List.map_nil]); first | done | rfl | (simp only [List.length_drop, List.length_take]; rfl)) ?_; (with_reducible refine (figureheadlaw12_answers.calls kj10  true _ ?side1 A21.out).mono ?_); (case side1 => exact Tabs_below HT.out (by repeat (first | (with_reducible first | exact HB.out | apply below_alloc | apply pw_below_drewN | apply below_drew1) | exact HB.out))); rintro e w36 ⟨rfl, hb⟩; refine ⟨_, rfl, ?_⟩; have n0_ := Aside0.mk (below_step (by repeat (first | (with_reducible first | exact HB.out | apply below_alloc | apply pw_below_drewN | apply below_drew1) | exact HB.out)) hb); clear HB; have HB := n0_; clear n0_; (try clear hb); (try clear hb2); (try clear hk); (try clear hi)) | (go_at_call 31; (with_reducible refine (figureheadref11_Put.calls kj10 a0 a1 t235 _ A23.out).mono ?_); rintro e w37 ⟨rfl, hb⟩; have n0_ := Aside0.mk (below_step (by repeat (first | (with_reducible first | exact HB.out | apply below_alloc | apply pw_below_drewN | apply below_drew1) | exact HB.out)) hb); clear HB; have HB := n0_; clear n0_; (try clear hb); (try clear hb2); (try clear hk); (try clear hi)))
                    go_ret
                    exact ⟨by first | rfl | (simp [errW_none, errW_some] <;> rfl) | (simp [*, errW_none, errW_some] <;> rfl), by repeat (first | (with_reducible first | exact HB.out | apply below_alloc | apply pw_below_drewN | apply below_drew1) | exact HB.out)⟩
                · rw [if_neg c24] at H
                  have c24b0 : (t229.toList == t235.toList) = false := beq_eq_false_iff_ne.mpr c24
                  have c24b1 : (t229.toList != t235.toList) = true := bne_iff_ne.mpr c24
                  obtain rfl := Option.some.inj H
                  go_wp2_with (first | ((with_reducible refine gate_callee (f := 30) rfl ?_); refine goesL_ (some 39) rfl rfl Tryd.func30 (by kernel_rfl) rfl #[.int .i32 a0, .string t229] rfl (by (try simp only [List.map_toArray, List.map_cons, List.map_nil]); first | done | rfl | (simp only [List.length_drop, List.length_take]; rfl)) ?_; (with_reducible refine (digit_Get.calls a0 t229 t232 t233 _ ?side1 A20.out).mono ?_); (case side1 => exact Tabs_below HT.out (by repeat (first | (with_reducible first | exact HB.out | apply below_alloc | apply pw_below_drewN | apply below_drew1) | exact HB.out))); rintro e w38 ⟨rfl, hb⟩; refine ⟨_, rfl, ?_⟩; have n0_ := Aside0.mk (below_step (by repeat (first | (with_reducible first | exact HB.out | apply below_alloc | apply pw_below_drewN | apply below_drew1) | exact HB.out)) hb); clear HB; have HB := n0_; clear n0_; (try clear hb); (try clear hb2); (try clear hk); (try clear hi)) | ((with_reducible refine gate_callee (f := 25) rfl ?_); refine goesL_ (some 42) rfl rfl Tryd.func25 (by kernel_rfl) rfl #[] rfl (by (try simp only [List.map_toArray, List.map_cons, List.map_nil]); first | done | rfl | (simp only [List.length_drop, List.length_take]; rfl)) ?_; (with_reducible refine (figureheadlaw12_answers.calls kj10  true _ ?side1 A21.out).mono ?_); (case side1 => exact Tabs_below HT.out (by repeat (first | (with_reducible first | exact HB.out | apply below_alloc | apply pw_below_drewN | apply below_drew1) | exact HB.out))); rintro e w39 ⟨rfl, hb⟩; refine ⟨_, rfl, ?_⟩; have n0_ := Aside0.mk (below_step (by repeat (first | (with_reducible first | exact HB.out | apply below_alloc | apply pw_below_drewN | apply below_drew1) | exact HB.out)) hb); clear HB; have HB := n0_; clear n0_; (try clear hb); (try clear hb2); (try clear hk); (try clear hi)) | (go_at_call 31; (with_reducible refine (figureheadref11_Put.calls kj10 a0 a1 t235 _ A23.out).mono ?_); rintro e w40 ⟨rfl, hb⟩; have n0_ := Aside0.mk (below_step (by repeat (first | (with_reducible first | exact HB.out | apply below_alloc | apply pw_below_drewN | apply below_drew1) | exact HB.out)) hb); clear HB; have HB := n0_; clear n0_; (try clear hb); (try clear hb2); (try clear hk); (try clear hi)))
                  go_ret
                  exact ⟨by first | rfl | (simp [errW_none, errW_some] <;> rfl) | (simp [*, errW_none, errW_some] <;> rfl), by repeat (first | (with_reducible first | exact HB.out | apply below_alloc | apply pw_below_drewN | apply below_drew1) | exact HB.out)⟩
              · replace c22 := Bool.eq_false_iff.mpr c22
                subst c22
                have H1 : (some false) = some r := by rw [if_neg (show ¬ (false = true) by decide)] at H; exact H
                clear H
                have H := H1
                clear H1
                obtain rfl := Option.some.inj H
                go_wp2_with (first | ((with_reducible refine gate_callee (f := 30) rfl ?_); refine goesL_ (some 39) rfl rfl Tryd.func30 (by kernel_rfl) rfl #[.int .i32 a0, .string t229] rfl (by (try simp only [List.map_toArray, List.map_cons, List.map_nil]); first | done | rfl | (simp only [List.length_drop, List.length_take]; rfl)) ?_; (with_reducible refine (digit_Get.calls a0 t229 t232 t233 _ ?side1 A20.out).mono ?_); (case side1 => exact Tabs_below HT.out (by repeat (first | (with_reducible first | exact HB.out | apply below_alloc | apply pw_below_drewN | apply below_drew1) | exact HB.out))); rintro e w41 ⟨rfl, hb⟩; refine ⟨_, rfl, ?_⟩; have n0_ := Aside0.mk (below_step (by repeat (first | (with_reducible first | exact HB.out | apply below_alloc | apply pw_below_drewN | apply below_drew1) | exact HB.out)) hb); clear HB; have HB := n0_; clear n0_; (try clear hb); (try clear hb2); (try clear hk); (try clear hi)) | ((with_reducible refine gate_callee (f := 25) rfl ?_); refine goesL_ (some 42) rfl rfl Tryd.func25 (by kernel_rfl) rfl #[] rfl (by (try simp only [List.map_toArray, List.map_cons, List.map_nil]); first | done | rfl | (simp only [List.length_drop, List.length_take]; rfl)) ?_; (with_reducible refine (figureheadlaw12_answers.calls kj10  false _ ?side1 A21.out).mono ?_); (case side1 => exact Tabs_below HT.out (by repeat (first | (with_reducible first | exact HB.out | apply below_alloc | apply pw_below_drewN | apply below_drew1) | exact HB.out))); rintro e w42 ⟨rfl, hb⟩; refine ⟨_, rfl, ?_⟩; have n0_ := Aside0.mk (below_step (by repeat (first | (with_reducible first | exact HB.out | apply below_alloc | apply pw_below_drewN | apply below_drew1) | exact HB.out)) hb); clear HB; have HB := n0_; clear n0_; (try clear hb); (try clear hb2); (try clear hk); (try clear hi)))
                go_ret
                exact ⟨by first | rfl | (simp [errW_none, errW_some] <;> rfl) | (simp [*, errW_none, errW_some] <;> rfl), by repeat (first | (with_reducible first | exact HB.out | apply below_alloc | apply pw_below_drewN | apply below_drew1) | exact HB.out)⟩

/-- THE ONE PURE STATEMENT of figureheadlaw12_DigitPuts. -/
def figureheadlaw12_DigitPuts.Pure : Prop := ∀ (a0 : Int) (a1 : ByteArray), (Lit.int .i32 a0).wf = true → a1.size ≤ 140737488351232 → ∃ k, figureheadlaw12_DigitPuts.f k a0 a1 = some true


end Go.Proofs.YtenifjkiiaahiaaDoor.Print
