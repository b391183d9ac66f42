/- The law SymbolTexts, the plain side: the text of any items, or that one may not be. -/
import Derived.Test.YtngaeggnjfhnfaaDoorPrint6
import Derived.Test.YtngaeggnjfhnfaaDoorPA18
namespace Go.Proofs.YtngaeggnjfhnfaaDoor.Pure
open Go.RowKit Go.Lib Go.Proofs.YtngaeggnjfhnfaaDoor.Print Go.Proofs.YtngaeggnjfhnfaaDoor.U Go.Proofs.YtngaeggnjfhnfaaDoor.Utf Go.Proofs.YtngaeggnjfhnfaaDoorW.PrintWords
set_option linter.unusedVariables false
set_option linter.unusedSimpArgs false

theorem bulk_sizes (z : Int) (s1 s2 s3 s4 s5 s6 s7 s8 : ByteArray) (m : Nat) (h : bulk23 (⟨z, s1, s2, s3, s4, s5, s6, s7, s8⟩ : S23) + m ≤ 1048576) : ∀ x ∈ [s1, s2, s3, s4, s5, s6, s7, s8], x.size ≤ 1000000000000 := by
  intro x hx
  unfold bulk23 at h
  simp only at h
  simp only [List.mem_cons, List.not_mem_nil, or_false] at hx
  rcases hx with rfl | rfl | rfl | rfl | rfl | rfl | rfl | rfl <;> omega
theorem SymbolTexts : figureheadlaw18_SymbolTexts.Pure := by
  intro z s1 s2 s3 s4 s5 s6 s7 s8 l hw hl _ hb
  have hz := i32_wf hw.1
  have hs := bulk_sizes z s1 s2 s3 s4 s5 s6 s7 s8 _ hb
  refine Ev.rounds (r := true) ?_
  simp only [figureheadlaw18_SymbolTexts.f]
  have yes : ∀ x : Bool, x = true → Ev (fun k => figureheadlaw18_SymbolTexts.j0 k l x z s1 s2 s3 s4 s5 s6 s7 s8) true := fun x hx => by
    subst hx
    refine succ ?_
    simp only [figureheadlaw18_SymbolTexts.j0]
    rw [answers18]
    exact pos (by simp) (mk (fun _ => rfl))
  refine Ev.bind (refGood_ev z hz.2 s1 s2 s3 s4 s5 s6 s7 s8 hs) ?_
  by_cases hg : ([s1, s2, s3, s4, s5, s6, s7, s8].all goodT && goodZ z) = true
  rotate_left
  · exact neg hg (yes _ rfl)
  refine pos hg ?_
  rw [Bool.and_eq_true] at hg
  have h16 := good16 hg.1
  by_cases h100 : (l.length : Int) > 100
  · exact yes _ (decide_eq_true h100)
  rw [decide_eq_false h100]
  refine succ ?_
  simp only [figureheadlaw18_SymbolTexts.j0]
  refine neg (by simp) ?_
  rw [symText_val z s1 s2 s3 s4 s5 s6 s7 s8 h16 l (by omega)]
  simp only [Option.bind_some]
  refine Ev.bind (may_ev l (by omega)) ?_
  rw [answers18]
  simp only [Option.bind_some]
  by_cases hm : l.all mayI = true
  · exact pos hm (pos trivial (Ev.bind (refText18_ev z s1 s2 s3 s4 s5 s6 s7 s8 h16 l (by omega) hm) (mk (fun _ => by simp))))
  · refine neg hm (pos trivial (mk (fun _ => ?_)))
    rw [itemsT_none s3 s4 s5 s6 s7 l hm, toList_L]
    rfl
end Go.Proofs.YtngaeggnjfhnfaaDoor.Pure
