/- The law DigitJoins, the plain side: digits, one behind the other, are the digits of both; what is no digit behind them ends them. -/
import Derived.Test.YtenifjkiiaahiaaDoorPureDigitMixed
namespace Go.Proofs.YtenifjkiiaahiaaDoor.Pure
open Go.RowKit Go.Lib Go.Proofs.YtenifjkiiaahiaaDoor.Print Go.Proofs.YtenifjkiiaahiaaDoor.U Go.Proofs.YtenifjkiiaahiaaDoor.Utf Go.Proofs.YtenifjkiiaahiaaDoorW.PrintWords
set_option linter.unusedVariables false
set_option linter.unusedSimpArgs false

theorem put_yes (z : Int) (hg : goodZ z = true) (s : ByteArray) (hs : s.size < 35184372088000) (hd : (L s).all digB = true) : digit_Put.f z s = some ⟨(encAll (toZ z (L s))).toArray⟩ := by
  rw [put_val z hg s hs, if_pos hd]
theorem DigitJoins : figureheadlaw12_DigitJoins.Pure := by
  intro z s t c hz hs ht hc
  have hz2 := i32_wf hz
  have hc2 := i32_wf hc
  refine Ev.rounds (r := true) ?_
  simp only [figureheadlaw12_DigitJoins.f]
  have yes : ∀ x : Bool, x = true → Ev (fun k => figureheadlaw12_DigitJoins.j0 k z s t c x) true := fun x hx => by
    subst hx
    refine succ ?_
    simp only [figureheadlaw12_DigitJoins.j0]
    exact pos (by simp) (Ev.bind answers12 (Ev.now _))
  by_cases h0 : z < 0
  · exact pos h0 (yes _ rfl)
  refine neg h0 (Ev.bind (zero_ev z (by omega) hz2.2) ?_)
  by_cases hg : goodZ z = true
  rotate_left
  · exact neg hg (yes _ rfl)
  refine pos hg ?_
  have gz := (good_iff z).1 hg
  refine Ev.bind (digits_ev s hs) ?_
  by_cases d1 : ((L s).all digB && decide (L s ≠ [])) = true
  rotate_left
  · exact neg d1 (yes _ rfl)
  refine pos d1 (Ev.bind (digits_ev t ht) ?_)
  by_cases d2 : ((L t).all digB && decide (L t ≠ [])) = true
  rotate_left
  · exact neg d2 (yes _ rfl)
  refine pos d2 ?_
  rw [w64 (by omega) (by omega)]
  by_cases h2 : (s.size : Int) + (t.size : Int) > 200
  · exact pos h2 (yes _ rfl)
  refine neg h2 ?_
  rw [refScalar_val]
  simp only [Option.bind_some]
  by_cases hv : Lib.validRune c = true
  rotate_left
  · exact neg hv (yes _ rfl)
  refine pos hv ?_
  have hok := (ok_iff c).1 hv
  rw [w32' (by omega) (by omega)]
  rw [Bool.and_eq_true] at d1 d2
  have n1 := of_decide_eq_true d1.2
  have n2 := of_decide_eq_true d2.2
  have core : isZ z c = false → Ev (fun k => figureheadlaw12_DigitJoins.j0 k z s t c false) true := fun hnz => by
    refine succ ?_
    simp only [figureheadlaw12_DigitJoins.j0]
    refine neg (by simp) ?_
    rw [put_yes z hg s (by omega) d1.1, put_yes z hg t (by omega) d2.1, refBytes_val c hv]
    simp only [Option.bind_some]
    rw [str_enc]
    have l1 := encAll_toZ_len z (L s)
    have l2 := encAll_toZ_len z (L t)
    have l3 := enc_len c
    rw [L_len] at l1 l2
    simp only [size_app, size_mk]
    have f1 : TextForm (encAll (toZ z (L s))) (toZ z (L s)) [] := form_enc _ (toZ_all z hg _ d1.1)
    have f2 : TextForm (encAll (toZ z (L t))) (toZ z (L t)) [] := form_enc _ (toZ_all z hg _ d2.1)
    have f3 : TextForm (encodeRune c) [c] [] := ⟨fun x hx => by rw [List.mem_singleton.1 hx]; exact hv, by simp [encAll], Or.inl rfl⟩
    have big : TextForm (L (((⟨(encAll (toZ z (L s))).toArray⟩ : ByteArray) ++ ⟨(encodeRune c).toArray⟩) ++ ⟨(encAll (toZ z (L t))).toArray⟩)) (toZ z (L s) ++ [c] ++ toZ z (L t)) [] := by
      rw [L_app, L_app, L_mk, L_mk, L_mk]
      exact form_app (form_app f1 f3) f2
    have two : TextForm (L ((⟨(encAll (toZ z (L s))).toArray⟩ : ByteArray) ++ ⟨(encAll (toZ z (L t))).toArray⟩)) (toZ z (L s) ++ toZ z (L t)) [] := by
      rw [L_app, L_mk, L_mk]
      exact form_app f1 f2
    have happ : toZ z (L s) ++ toZ z (L t) = toZ z (L s ++ L t) := by unfold toZ; rw [List.map_append]
    have hall : (L s ++ L t).all digB = true := by rw [List.all_append, d1.1, d2.1]; rfl
    rw [happ] at two
    refine pos (by omega) (pos (by omega) ?_)
    rw [get_val z hg _ (by rw [size_app, size_app, size_mk, size_mk, size_mk]; omega) _ [] big, get_val z hg _ (by rw [size_app, size_mk, size_mk]; omega) _ [] two, run_val z _ (by rw [size_app, size_app, size_mk, size_mk, size_mk]; omega) _ [] big, put_yes z hg (s ++ t) (by rw [size_app]; omega) (by rw [L_app]; exact hall)]
    simp only [Option.bind_some]
    have nbig : ¬ ((toZ z (L s) ++ [c] ++ toZ z (L t)).all (isZ z) = true) := fun h => by
      rw [List.all_append, List.all_append, Bool.and_eq_true, Bool.and_eq_true] at h
      have h2 := h.1.2
      rw [List.all_cons, hnz] at h2
      cases h2
    have ntwo : toZ z (L s ++ L t) ≠ [] := fun e => n1 (List.append_eq_nil_iff.1 ((toZ_ne z _).1 e)).1
    rw [getR_no z _ [] (fun h => nbig h.2.2), getR_yes z _ [] ⟨ntwo, rfl, all_isZ z hg _ hall⟩]
    refine pos (by omega) (Ev.bind answers12 (pos rfl (pos (by omega) ?_)))
    rw [List.append_assoc, List.singleton_append, takeWhile_stop _ _ _ _ (all_isZ z hg _ d1.1) hnz]
    refine pos ?_ (pos rfl (pos ?_ (neg (by simp) (mk (fun _ => by simp)))))
    · rw [toList_L, toList_L, L_app, L_mk, L_mk, L_mk, L_app, ← encAll_app, happ]
    · rw [toList_L, toList_L, L_mk, L_app, fromZ_toZ z _ hall]
  by_cases h3 : c ≥ z
  · refine pos h3 ?_
    by_cases h4 : c - z < 10
    · exact yes _ (decide_eq_true h4)
    · rw [decide_eq_false h4]
      exact core (isZ_not z c hg (Or.inr (by omega)))
  · exact neg h3 (core (isZ_not z c hg (Or.inl (by omega))))
end Go.Proofs.YtenifjkiiaahiaaDoor.Pure
