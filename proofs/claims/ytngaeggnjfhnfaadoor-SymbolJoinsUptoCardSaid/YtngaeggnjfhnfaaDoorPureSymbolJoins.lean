/- The law SymbolJoins, the plain side: the text of items, one behind the other, is their texts, one behind the other. -/
import Derived.Test.YtngaeggnjfhnfaaDoorPrint7
import Derived.Test.YtngaeggnjfhnfaaDoorPureSymbolTexts
namespace Go.Proofs.YtngaeggnjfhnfaaDoor.Pure
open Go.RowKit Go.Lib Go.Proofs.YtngaeggnjfhnfaaDoor.Print Go.Proofs.YtngaeggnjfhnfaaDoor.U Go.Proofs.YtngaeggnjfhnfaaDoor.Utf Go.Proofs.YtngaeggnjfhnfaaDoorW.PrintWords
set_option linter.unusedVariables false
set_option linter.unusedSimpArgs false

theorem itemsT_size (s3 s4 s5 s6 s7 : ByteArray) (h16 : s3.size ≤ 16 ∧ s4.size ≤ 16 ∧ s5.size ≤ 16 ∧ s6.size ≤ 16 ∧ s7.size ≤ 16) (l : List S34) (t : List UInt8) (h : itemsT s3 s4 s5 s6 s7 l = some t) : t.length ≤ 16 * l.length := by
  induction l generalizing t with
  | nil => cases h; simp
  | cons x l ih =>
    simp only [itemsT] at h
    cases hx : itemT s3 s4 s5 s6 s7 x with
    | none => rw [hx] at h; cases h
    | some c =>
      rw [hx] at h
      cases hl : itemsT s3 s4 s5 s6 s7 l with
      | none => rw [hl] at h; cases h
      | some d =>
        rw [hl] at h
        have e : c ++ d = t := Option.some.inj h
        have h1 := ih d hl
        have h2 : c.length ≤ 16 := by
          unfold itemT at hx
          split at hx
          · cases hx
            rw [L_len]
            exact sgn_size s3 s4 s5 s6 s7 h16 _
          · split at hx
            · cases hx
              have := (enc_len x.f1).2
              omega
            · cases hx
        rw [← e, List.length_append, List.length_cons]
        omega
theorem SymbolJoins : figureheadlaw18_SymbolJoins.Pure := by
  intro z s1 s2 s3 s4 s5 s6 s7 s8 l m hw hl _ hlm _ hb
  have hz := i32_wf hw.1
  have hs := bulk_sizes z s1 s2 s3 s4 s5 s6 s7 s8 (((l.map bulk34).sum + 1) + ((m.map bulk34).sum + 1)) (by omega)
  refine Ev.rounds (r := true) ?_
  simp only [figureheadlaw18_SymbolJoins.f]
  have yes : ∀ x : Bool, x = true → Ev (fun k => figureheadlaw18_SymbolJoins.j0 k l m x z s1 s2 s3 s4 s5 s6 s7 s8) true := fun x hx => by
    subst hx
    refine succ ?_
    simp only [figureheadlaw18_SymbolJoins.j0]
    rw [answers18]
    exact pos (by simp) (mk (fun _ => rfl))
  refine Ev.bind (refGood_ev z hz.2 s1 s2 s3 s4 s5 s6 s7 s8 hs) ?_
  by_cases hg : ([s1, s2, s3, s4, s5, s6, s7, s8].all goodT && goodZ z) = true
  rotate_left
  · exact neg hg (yes _ rfl)
  refine pos hg ?_
  rw [Bool.and_eq_true] at hg
  have h16 := good16 hg.1
  refine Ev.bind (may_ev l (by omega)) ?_
  by_cases hm1 : l.all mayI = true
  rotate_left
  · exact neg hm1 (yes _ rfl)
  refine pos hm1 (Ev.bind (may_ev m (by omega)) ?_)
  by_cases hm2 : m.all mayI = true
  rotate_left
  · exact neg hm2 (yes _ rfl)
  refine pos hm2 ?_
  rw [w64 (by omega) (by omega)]
  by_cases h100 : (l.length : Int) + (m.length : Int) > 100
  · exact yes _ (decide_eq_true h100)
  rw [decide_eq_false h100]
  refine succ ?_
  simp only [figureheadlaw18_SymbolJoins.j0]
  refine neg (by simp) ?_
  rw [answers18]
  simp only [Option.bind_some]
  obtain ⟨a, ha⟩ := itemsT_some s3 s4 s5 s6 s7 l hm1
  obtain ⟨b, hb2⟩ := itemsT_some s3 s4 s5 s6 s7 m hm2
  have hab := itemsT_app s3 s4 s5 s6 s7 l m a b ha hb2
  have za := itemsT_size s3 s4 s5 s6 s7 h16 l a ha
  have zb := itemsT_size s3 s4 s5 s6 s7 h16 m b hb2
  refine pos trivial (pos (by simp; omega) (pos (by simp; omega) ?_))
  simp only [List.nil_append]
  rw [symText_val z s1 s2 s3 s4 s5 s6 s7 s8 h16 (l ++ m) (by rw [List.length_append]; omega), symText_val z s1 s2 s3 s4 s5 s6 s7 s8 h16 l (by omega), symText_val z s1 s2 s3 s4 s5 s6 s7 s8 h16 m (by omega), ha, hb2, hab]
  simp only [Option.bind_some, Option.getD_some, size_mk]
  refine pos (by omega) (mk (fun _ => ?_))
  rw [toList_L, toList_L, L_app, L_mk, L_mk, L_mk]
  simp
end Go.Proofs.YtngaeggnjfhnfaaDoor.Pure
