/- The law DigitMixed, the plain side: digits of two systems that share none are none of one. -/
import Derived.Test.YtenifjkiiaahiaaDoorPureDigitPuts
namespace Go.Proofs.YtenifjkiiaahiaaDoor.Pure
open Go.RowKit Go.Lib Go.Proofs.YtenifjkiiaahiaaDoor.Print Go.Proofs.YtenifjkiiaahiaaDoor.U Go.Proofs.YtenifjkiiaahiaaDoor.Utf Go.Proofs.YtenifjkiiaahiaaDoorW.PrintWords
set_option linter.unusedVariables false
set_option linter.unusedSimpArgs false

theorem takeWhile_stop {α : Type} (p : α → Bool) (l : List α) (x : α) (m : List α) (h : l.all p = true) (hx : p x = false) : (l ++ x :: m).takeWhile p = l := by
  induction l with
  | nil => rw [List.nil_append, List.takeWhile_cons, hx]; rfl
  | cons y l ih =>
    rw [List.all_cons, Bool.and_eq_true] at h
    rw [List.cons_append, List.takeWhile_cons, h.1, if_pos rfl, ih h.2]
theorem toZ_cons (z : Int) (l : List UInt8) (hne : l ≠ []) (hd : l.all digB = true) (hg : goodZ z = true) : ∃ x m, toZ z l = x :: m ∧ z ≤ x ∧ x < z + 10 := by
  cases l with
  | nil => exact absurd rfl hne
  | cons b l => exact ⟨_, _, rfl, (isZ_iff z _ hg).1 (toZ_isZ z hg (b :: l) hd _ (by simp [toZ]))⟩
theorem isZ_not (z x : Int) (hg : goodZ z = true) (h : x < z ∨ z + 10 ≤ x) : isZ z x = false := by
  cases e : isZ z x with
  | false => rfl
  | true => have := (isZ_iff z x hg).1 e; omega
theorem DigitMixed : figureheadlaw12_DigitMixed.Pure := by
  intro z y s t hz hy hs ht
  have hz2 := i32_wf hz
  have hy2 := i32_wf hy
  refine Ev.rounds (r := true) ?_
  simp only [figureheadlaw12_DigitMixed.f]
  have yes : ∀ x : Bool, x = true → Ev (fun k => figureheadlaw12_DigitMixed.j0 k z y s t x) true := fun x hx => by
    subst hx
    refine succ ?_
    simp only [figureheadlaw12_DigitMixed.j0]
    exact pos (by simp) (Ev.bind answers12 (Ev.now _))
  by_cases h0 : z < 0
  · exact pos h0 (yes _ rfl)
  refine neg h0 (Ev.bind (zero_ev z (by omega) hz2.2) ?_)
  by_cases hg : goodZ z = true
  rotate_left
  · exact neg hg (yes _ rfl)
  refine pos hg ?_
  by_cases h1 : y < 0
  · exact pos h1 (yes _ rfl)
  refine neg h1 (Ev.bind (zero_ev y (by omega) hy2.2) ?_)
  by_cases hgy : goodZ y = true
  rotate_left
  · exact neg hgy (yes _ rfl)
  refine pos hgy ?_
  have gz := (good_iff z).1 hg
  have gy := (good_iff y).1 hgy
  rw [w32' (x := y - z) (by omega) (by omega), w32' (x := z - y) (by omega) (by omega)]
  have core : (y - z ≥ 10 ∨ z - y ≥ 10) → Ev (fun k => (figureheadref05_Digits.f k s).bind fun t251 => (if t251 = true then ((figureheadref05_Digits.f k t).bind fun t252 => (if t252 = true then (figureheadlaw12_DigitMixed.j0 k z y s t (decide ((wrap64 ((s.size : Int) + (t.size : Int))) > 100))) else (figureheadlaw12_DigitMixed.j0 k z y s t true))) else (figureheadlaw12_DigitMixed.j0 k z y s t true))) true := fun apart => by
    refine Ev.bind (digits_ev s hs) ?_
    by_cases d1 : ((L s).all digB && decide (L s ≠ [])) = true
    rotate_left
    · exact neg d1 (yes _ rfl)
    refine pos d1 (Ev.bind (digits_ev t ht) ?_)
    by_cases d2 : ((L t).all digB && decide (L t ≠ [])) = true
    rotate_left
    · exact neg d2 (yes _ rfl)
    refine pos d2 ?_
    rw [w64 (by omega) (by omega)]
    by_cases h2 : (s.size : Int) + (t.size : Int) > 100
    · exact yes _ (decide_eq_true h2)
    rw [decide_eq_false h2]
    rw [Bool.and_eq_true] at d1 d2
    have n1 := of_decide_eq_true d1.2
    have n2 := of_decide_eq_true d2.2
    refine succ ?_
    simp only [figureheadlaw12_DigitMixed.j0]
    refine neg (by simp) (Ev.bind (refPut_ev z hg s (by omega) d1.1) (Ev.bind (refPut_ev y hgy t (by omega) d2.1) ?_))
    have l1 := encAll_toZ_len z (L s)
    have l2 := encAll_toZ_len y (L t)
    rw [L_len] at l1 l2
    rw [size_mk, size_mk]
    refine pos (by omega) ?_
    have hform : TextForm (L ((⟨(encAll (toZ z (L s))).toArray⟩ : ByteArray) ++ ⟨(encAll (toZ y (L t))).toArray⟩)) (toZ z (L s) ++ toZ y (L t)) [] := by
      rw [L_app, L_mk, L_mk]
      exact form_app (form_enc _ (toZ_all z hg _ d1.1)) (form_enc _ (toZ_all y hgy _ d2.1))
    have hsz : ((⟨(encAll (toZ z (L s))).toArray⟩ : ByteArray) ++ ⟨(encAll (toZ y (L t))).toArray⟩).size < 35184372088000 := by
      rw [size_app, size_mk, size_mk]
      omega
    rw [get_val z hg _ hsz _ [] hform, get_val y hgy _ hsz _ [] hform, run_val z _ (by omega) _ [] hform]
    simp only [Option.bind_some]
    obtain ⟨x1, m1, e1, a1, b1⟩ := toZ_cons z (L s) n1 d1.1 hg
    obtain ⟨x2, m2, e2, a2, b2⟩ := toZ_cons y (L t) n2 d2.1 hgy
    have notz : isZ z x2 = false := isZ_not z x2 hg (by omega)
    have noty : isZ y x1 = false := isZ_not y x1 hgy (by omega)
    have g1 : ¬ ((toZ z (L s) ++ toZ y (L t)).all (isZ z) = true) := fun h => by
      rw [List.all_append, Bool.and_eq_true] at h
      have h2 := h.2
      rw [e2, List.all_cons, notz] at h2
      cases h2
    have g2 : ¬ ((toZ z (L s) ++ toZ y (L t)).all (isZ y) = true) := fun h => by
      rw [List.all_append, Bool.and_eq_true] at h
      have h2 := h.1
      rw [e1, List.all_cons, noty] at h2
      cases h2
    rw [getR_no z _ [] (fun h => g1 h.2.2), getR_no y _ [] (fun h => g2 h.2.2)]
    refine Ev.bind answers12 (pos rfl (neg (by simp) (neg (by simp) (Ev.bind (refPut_ev z hg s (by omega) d1.1) (mk (fun _ => ?_))))))
    rw [e2, takeWhile_stop _ _ _ _ (all_isZ z hg _ d1.1) notz, size_mk]
    simp
  by_cases c1 : y - z < 10
  · refine pos c1 ?_
    by_cases c2 : z - y < 10
    · exact pos c2 (yes _ rfl)
    · exact neg c2 (core (Or.inr (by omega)))
  · exact neg c1 (core (Or.inl (by omega)))
end Go.Proofs.YtenifjkiiaahiaaDoor.Pure
