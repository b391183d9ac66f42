/- The law SymbolGood, the plain side: which symbols may be. -/
import Derived.Test.YtngaeggnjfhnfaaDoorPrint4
import Derived.Test.YtngaeggnjfhnfaaDoorPA18
namespace Go.Proofs.YtngaeggnjfhnfaaDoor.Pure
open Go.RowKit Go.Lib Go.Proofs.YtngaeggnjfhnfaaDoor.Print Go.Proofs.YtngaeggnjfhnfaaDoor.U Go.Proofs.YtngaeggnjfhnfaaDoor.Utf Go.Proofs.YtngaeggnjfhnfaaDoorW.PrintWords
set_option linter.unusedVariables false
set_option linter.unusedSimpArgs false

theorem symgood_l0 (ts : List ByteArray) (hl : ts.length ≤ 1000) (z : Int) (s1 s2 s3 s4 s5 s6 s7 s8 : ByteArray)
    (fin : (∀ x ∈ ts, x.size ≤ 1000) → Ev (fun k => figureheadlaw18_SymbolGood.l0 k ts (ts.length : Int) (ts.length : Int) z s1 s2 s3 s4 s5 s6 s7 s8) true) : ∀ (d i : Nat), i + d = ts.length → (∀ x ∈ ts.take i, x.size ≤ 1000) →
    Ev (fun k => figureheadlaw18_SymbolGood.l0 k ts (ts.length : Int) (i : Int) z s1 s2 s3 s4 s5 s6 s7 s8) true
  | 0, i, hd, hs => by
    have e : i = ts.length := by omega
    rw [e]
    rw [e, List.take_length] at hs
    exact fin hs
  | d + 1, i, hd, hs => by
    refine succ ?_
    simp only [figureheadlaw18_SymbolGood.l0]
    have hi : i < ts.length := by omega
    rw [rdOf_at _ _ _ hi]
    refine pos (by omega) (pos (by omega) (pos (by omega) ?_))
    by_cases h : ((ts[i].size : Nat) : Int) > 1000
    · rw [answers18]
      exact pos h (mk (fun _ => rfl))
    · refine neg h ?_
      rw [w64 (by omega) (by omega)]
      have := symgood_l0 ts hl z s1 s2 s3 s4 s5 s6 s7 s8 fin d (i + 1) (by omega) (fun x hx => by
        rw [List.take_succ_eq_append_getElem hi, List.mem_append, List.mem_singleton] at hx
        rcases hx with hx | hx
        · exact hs x hx
        · rw [hx]; omega)
      simpa using this
theorem SymbolGood : figureheadlaw18_SymbolGood.Pure := by
  intro z s1 s2 s3 s4 s5 s6 s7 s8 hw
  have hz := i32_wf hw.1
  refine Ev.rounds (r := true) ?_
  simp only [figureheadlaw18_SymbolGood.f, Option.bind_some]
  have := symgood_l0 [s1, s2, s3, s4, s5, s6, s7, s8] (by simp) z s1 s2 s3 s4 s5 s6 s7 s8 (fun hs => ?_) 8 0 rfl (fun _ h => by cases h)
  · simpa using this
  · refine succ ?_
    simp only [figureheadlaw18_SymbolGood.l0]
    refine neg (by omega) ?_
    rw [answers18]
    simp only [Option.bind_some, symbol_Good.f]
    refine pos trivial (Ev.bind (refGood_ev z hz.2 s1 s2 s3 s4 s5 s6 s7 s8 (fun x hx => by have := hs x hx; omega)) (mk (fun _ => by simp)))
end Go.Proofs.YtngaeggnjfhnfaaDoor.Pure
