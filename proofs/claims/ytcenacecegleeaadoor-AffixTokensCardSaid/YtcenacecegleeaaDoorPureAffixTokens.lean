/- The law AffixTokens, the plain side: the tokens of any items, or that one may not be. -/
import Derived.Test.YtcenacecegleeaaDoorPA14
import Derived.Test.YtcenacecegleeaaDoorPrint10
namespace Go.Proofs.YtcenacecegleeaaDoor.Pure
open Go.RowKit Go.Lib Go.Proofs.YtcenacecegleeaaDoor.Print Go.Proofs.YtcenacecegleeaaDoor.U Go.Proofs.YtcenacecegleeaaDoor.Utf Go.Proofs.YtcenacecegleeaaDoorW.PrintWords
set_option linter.unusedVariables false
set_option linter.unusedSimpArgs false

theorem tokens_l0 (l : List S43) (hb : l.length ≤ 200) (hm : ∀ x ∈ l, mayI x = true) : ∀ (d i : Nat), i + d = l.length → Ev (fun k => figureheadlaw14_AffixTokens.l0 k l (l.map tokI) (l.map tokI) (i : Int)) true
  | 0, i, hd => by
    refine succ ?_
    simp only [figureheadlaw14_AffixTokens.l0]
    have hok : (l.map tokI).all okT = true := by
      rw [List.all_eq_true]
      intro t ht
      obtain ⟨x, hx, rfl⟩ := List.mem_map.1 ht
      exact (tokI_facts x (hm x hx)).1
    have hv : ∀ x ∈ l.map tokI, validRune x.f0 = true := fun x hx => by
      have := List.all_eq_true.1 hok x hx
      unfold okT at this
      rw [Bool.and_eq_true] at this
      exact this.1
    have hp := (print_scan (l.map tokI) (by simp; omega) hok).1
    have hpr : affix_Print.f l = some ⟨(encAll (prR (l.map tokI) [])).toArray⟩ := by
      unfold affix_Print.f
      rw [tokens_val l (by omega), toksT_may, if_pos (List.all_eq_true.2 hm)]
      simp only [Option.getD_some, Option.bind_some]
      rw [hp]; rfl
    rw [answers14, hpr]
    simp only [Option.bind_some]
    refine neg (by simp; omega) (pos trivial (Ev.bind (sameT_ev _ _ (by simp; omega)) (pos (by simp) (Ev.bind (refPrint_ev _ hv (by simp; omega)) (mk (fun _ => by simp))))))
  | d + 1, i, hd => by
    refine succ ?_
    simp only [figureheadlaw14_AffixTokens.l0]
    have hi : i < l.length := by omega
    have hi2 : i < (l.map tokI).length := by simpa using hi
    rw [rdK_at _ i hi2, List.getElem_map, w64 (by omega) (by omega)]
    refine pos (by omega) (pos (by omega) (pos (tokI_facts _ (hm _ (List.getElem_mem _))).2.1 ?_))
    have := tokens_l0 l hb hm d (i + 1) (by omega)
    simpa using this
theorem AffixTokens : figureheadlaw14_AffixTokens.Pure := by
  intro l hl hw
  refine Ev.rounds (r := true) ?_
  simp only [figureheadlaw14_AffixTokens.f]
  rw [answers14]
  by_cases h : (l.length : Int) > 200
  · exact pos h (Ev.now _)
  refine neg h ?_
  rw [tokens_val l (by omega), toksT_may]
  simp only [Option.bind_some]
  by_cases hm : l.all mayI = true
  · have hm2 : ∀ x ∈ l, mayI x = true := List.all_eq_true.1 hm
    rw [if_pos hm]
    have hmay := may_ev l (by omega)
    rw [hm] at hmay
    refine Ev.bind hmay (pos rfl (Ev.bind (refTokens_ev l hm2 (by omega)) ?_))
    have := tokens_l0 l (by omega) hm2 l.length 0 (by omega)
    simpa using this
  · have hm0 : l.all mayI = false := by simpa using hm
    rw [if_neg hm]
    have hmay := may_ev l (by omega)
    rw [hm0] at hmay
    have hpr : affix_Print.f l = some ⟨#[]⟩ := by
      unfold affix_Print.f
      rw [tokens_val l (by omega), toksT_may, if_neg hm]
      rfl
    rw [hpr]
    simp only [Option.bind_some]
    exact Ev.bind hmay (neg (by simp) (pos trivial (pos (by simp) (mk (fun _ => by simp [toList_L])))))
end Go.Proofs.YtcenacecegleeaaDoor.Pure
