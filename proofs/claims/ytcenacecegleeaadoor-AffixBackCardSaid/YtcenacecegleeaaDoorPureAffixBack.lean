/- The law AffixBack, the plain side: items that are printed, and scanned, are the same items. -/
import Derived.Test.YtcenacecegleeaaDoorPA14
import Derived.Test.YtcenacecegleeaaDoorPrint11
namespace Go.Proofs.YtcenacecegleeaaDoor.Pure
open Go.RowKit Go.Lib Go.Proofs.YtcenacecegleeaaDoor.Print Go.Proofs.YtcenacecegleeaaDoor.U Go.Proofs.YtcenacecegleeaaDoor.Utf Go.Proofs.YtcenacecegleeaaDoorW.PrintWords
set_option linter.unusedVariables false
set_option linter.unusedSimpArgs false

theorem back_j0 (l : List S43) (b : Bool) (hb : b = false → l.length ≤ 40 ∧ ∀ x ∈ l, mayI x = true) : Ev (fun k => figureheadlaw14_AffixBack.j0 k l b) true := by
  refine succ ?_
  simp only [figureheadlaw14_AffixBack.j0]
  rw [answers14]
  by_cases h : b = true
  · exact pos h (Ev.now _)
  refine neg h ?_
  obtain ⟨hl, hm⟩ := hb (by simpa using h)
  have hok : (l.map tokI).all okT = true := by
    rw [List.all_eq_true]
    intro t ht
    obtain ⟨x, hx, rfl⟩ := List.mem_map.1 ht
    exact (tokI_facts x (hm x hx)).1
  obtain ⟨hp, k, hs, hk⟩ := print_scan (l.map tokI) (by simp; omega) hok
  have hkl : k.length = l.length := by have := congrArg List.length hk; simpa using this
  have hpr : affix_Print.f l = some ⟨(encAll (prR (l.map tokI) [])).toArray⟩ := by
    unfold affix_Print.f
    rw [tokens_val l (by omega), toksT_may, if_pos (List.all_eq_true.2 hm)]
    simp only [Option.getD_some, Option.bind_some]
    rw [hp]; rfl
  rw [hpr]
  simp only [Option.bind_some]
  rw [hs]
  simp only [Option.bind_some]
  rw [items_val k (by omega), itemsGo_back l k [] hm hk (by simpa using hl)]
  simp only [Option.bind_some, List.nil_append]
  exact pos trivial (pos trivial (pos trivial (Ev.bind (sameI_true l (by omega)) (Ev.now _))))
theorem AffixBack : figureheadlaw14_AffixBack.Pure := by
  intro l hl hw
  refine Ev.rounds (r := true) ?_
  simp only [figureheadlaw14_AffixBack.f]
  by_cases h : (l.length : Int) > 40
  · exact pos h (back_j0 l true (fun e => by cases e))
  · refine neg h (Ev.bind (may_ev l (by omega)) (back_j0 l _ (fun e => ⟨by omega, ?_⟩)))
    have : l.all mayI = true := by simpa using e
    exact List.all_eq_true.1 this
end Go.Proofs.YtcenacecegleeaaDoor.Pure
