/- The law AffixNeeds, the plain side: which code points need quotes; each other one is, plain, itself. -/
import Derived.Test.YtcenacecegleeaaDoorPA14
import Derived.Test.YtcenacecegleeaaDoorPrint12
namespace Go.Proofs.YtcenacecegleeaaDoor.Pure
open Go.RowKit Go.Lib Go.Proofs.YtcenacecegleeaaDoor.Print Go.Proofs.YtcenacecegleeaaDoor.U Go.Proofs.YtcenacecegleeaaDoor.Utf Go.Proofs.YtcenacecegleeaaDoorW.PrintWords
set_option linter.unusedVariables false
set_option linter.unusedSimpArgs false

theorem AffixNeeds : figureheadlaw14_AffixNeeds.Pure := by
  intro r hr
  refine Ev.rounds (r := true) ?_
  simp only [figureheadlaw14_AffixNeeds.f]
  have hy : affix_Items.f [⟨r, true, 0⟩] = some ([⟨1, r⟩], 0, 0) := by
    rw [items_val _ (by simp)]
    simp [itemsGo, itemT]
  rw [hy, needs_val, refNeeds_val]
  have hs := sgn_range r
  by_cases hm : markB r = true
  · have hx : affix_Items.f [⟨r, false, 7⟩] = some ([], 4, 7) := by
      rw [items_val _ (by simp)]
      simp [itemsGo, itemT, hm]
    rw [hx]
    simp only [Option.bind_some]
    refine neg (by simp) (pos trivial (pos (by simp) (pos (by simp) ?_)))
    refine succ ?_
    simp only [figureheadlaw14_AffixNeeds.j0]
    rw [refMark_val, answers14, hm]
    simp only [Option.bind_some]
    refine neg (by simp [rd_T43]) (pos trivial (pos trivial (pos (by decide) (mk (fun _ => by simp)))))
  · have hm0 : markB r = false := by simpa using hm
    by_cases h0 : sgn r = 0
    · have hx : affix_Items.f [⟨r, false, 7⟩] = some ([⟨1, r⟩], 0, 0) := by
        rw [items_val _ (by simp)]
        simp [itemsGo, itemT, hm0, h0]
      rw [hx]
      simp only [Option.bind_some]
      refine neg (by simp) (pos trivial (pos (by simp) (pos (by simp) ?_)))
      refine succ ?_
      simp only [figureheadlaw14_AffixNeeds.j0]
      rw [refMark_val, refSign_val, answers14, hm0, h0]
      simp only [Option.bind_some]
      refine neg (by simp [rd_T43]) (neg (by simp) (pos trivial (pos trivial (pos (by simp) (pos (by simp) (pos (by simp) (mk (fun _ => by simp))))))))
    · have hx : affix_Items.f [⟨r, false, 7⟩] = some ([⟨sgn r, 0⟩], 0, 0) := by
        rw [items_val _ (by simp)]
        simp [itemsGo, itemT, hm0, h0]
      rw [hx]
      simp only [Option.bind_some]
      refine neg (by simp) (pos trivial (pos (by simp) (pos (by simp) ?_)))
      refine succ ?_
      simp only [figureheadlaw14_AffixNeeds.j0]
      rw [refMark_val, refSign_val, answers14, hm0]
      simp only [Option.bind_some]
      have h1 : (sgn r == 1) = false := beq_eq_false_iff_ne.2 (by omega)
      have h2 : (sgn r == 0) = false := beq_eq_false_iff_ne.2 h0
      refine neg (by simp [rd_T43]) (neg (by simp) (pos trivial (pos trivial (pos (by simp) (pos (by simp) (pos (by simp) (mk (fun _ => by simp [rd_T43, h1, h2])))))))) 
end Go.Proofs.YtcenacecegleeaaDoor.Pure
