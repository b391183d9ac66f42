/- The law SymbolSigns, the plain side: a sign's text is its own symbol, and no other symbol changes it. -/
import Derived.Test.YtngaeggnjfhnfaaDoorPrint10
import Derived.Test.YtngaeggnjfhnfaaDoorPureSymbolLatin
import Derived.Test.YtngaeggnjfhnfaaDoorPureSymbolTexts
namespace Go.Proofs.YtngaeggnjfhnfaaDoor.Pure
open Go.RowKit Go.Lib Go.Proofs.YtngaeggnjfhnfaaDoor.Print Go.Proofs.YtngaeggnjfhnfaaDoor.U Go.Proofs.YtngaeggnjfhnfaaDoor.Utf Go.Proofs.YtngaeggnjfhnfaaDoorW.PrintWords
set_option linter.unusedVariables false
set_option linter.unusedSimpArgs false

theorem one_sign (s3 s4 s5 s6 s7 : ByteArray) (k : Int) (h : (sgn s3 s4 s5 s6 s7 k).2 = true) : (itemsT s3 s4 s5 s6 s7 [(⟨k, 0⟩ : S34)]).getD [] = L (sgn s3 s4 s5 s6 s7 k).1 := by
  have e : itemT s3 s4 s5 s6 s7 (⟨k, 0⟩ : S34) = some (L (sgn s3 s4 s5 s6 s7 k).1) := by
    unfold itemT
    rw [if_pos (show (sgn s3 s4 s5 s6 s7 k).2 = true ∧ (0 : Int) = 0 from ⟨h, rfl⟩)]
  simp only [itemsT]
  rw [e]
  simp
theorem SymbolSigns : figureheadlaw18_SymbolSigns.Pure := by
  intro z s1 s2 s3 s4 s5 s6 s7 s8 a o hw ha ho hb
  have hz := i32_wf hw.1
  have hs := bulk_sizes z s1 s2 s3 s4 s5 s6 s7 s8 (1 + (o.size + 1)) (by omega)
  refine Ev.rounds (r := true) ?_
  simp only [figureheadlaw18_SymbolSigns.f]
  have yes : ∀ x : Bool, x = true → Ev (fun k => figureheadlaw18_SymbolSigns.j0 k a o x z s1 s2 s3 s4 s5 s6 s7 s8) true := fun x hx => by
    subst hx
    refine succ ?_
    simp only [figureheadlaw18_SymbolSigns.j0]
    rw [answers18]
    exact pos (by simp) (mk (fun _ => rfl))
  refine Ev.bind (refGood_ev z hz.2 s1 s2 s3 s4 s5 s6 s7 s8 hs) ?_
  by_cases hg : ([s1, s2, s3, s4, s5, s6, s7, s8].all goodT && goodZ z) = true
  rotate_left
  · exact neg hg (yes _ rfl)
  refine pos hg ?_
  rw [Bool.and_eq_true] at hg
  have h16 := good16 hg.1
  by_cases h100 : (o.size : Int) > 100
  · exact yes _ (decide_eq_true h100)
  rw [decide_eq_false h100]
  refine succ ?_
  simp only [figureheadlaw18_SymbolSigns.j0, Option.bind_some, answers18]
  refine neg (by simp) ?_
  obtain ⟨k, t, j, hk, hj, hsg, ht, hk2⟩ : ∃ (k : Int) (t : ByteArray) (j : Nat), k = (j : Int) + 2 ∧ j < 5 ∧ sgn s3 s4 s5 s6 s7 k = (t, true) ∧ [s3, s4, s5, s6, s7][j]? = some t ∧ wrap64 ((wrap64 (Int.tmod a 5)) + 2) = k := by
    rcases fiver (u8_wf ha) with e | e | e | e | e
    · exact ⟨2, s3, 0, rfl, by omega, rfl, rfl, e⟩
    · exact ⟨3, s4, 1, rfl, by omega, rfl, rfl, e⟩
    · exact ⟨4, s5, 2, rfl, by omega, rfl, rfl, e⟩
    · exact ⟨5, s6, 3, rfl, by omega, rfl, rfl, e⟩
    · exact ⟨6, s7, 4, rfl, by omega, rfl, rfl, e⟩
  have e1 : wrap64 (k - 2) = (j : Int) := by rw [hk, w64 (by omega) (by omega)]; omega
  have e2 : rdOf ByteArray.empty [s3, s4, s5, s6, s7] (j : Int) = t := by
    unfold rdOf
    rw [Int.toNat_natCast, List.getD_eq_getElem?_getD, ht]
    rfl
  have v := fun (z : Int) (s1 s2 s8 : ByteArray) => symText_val z s1 s2 s3 s4 s5 s6 s7 s8 h16 [(⟨k, 0⟩ : S34)] (by simp)
  rw [one_sign s3 s4 s5 s6 s7 k (by rw [hsg]), hsg] at v
  rw [hk2, e1, e2]
  simp only [v, Option.bind_some]
  refine pos (by omega) (pos (by simp only [List.length_cons, List.length_nil]; omega) (pos trivial (pos (by simp) (mk (fun _ => by simp)))))
end Go.Proofs.YtngaeggnjfhnfaaDoor.Pure
