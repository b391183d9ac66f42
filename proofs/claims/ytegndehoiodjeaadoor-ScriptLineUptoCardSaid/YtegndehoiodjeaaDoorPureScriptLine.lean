/- The law ScriptLine, the plain side: behind commands a line that is none is told by its number. -/
import Derived.Test.YtegndehoiodjeaaDoorPr
import Derived.Test.YtegndehoiodjeaaDoorPt
import Derived.Test.YtegndehoiodjeaaDoorPrint5
namespace Go.Proofs.YtegndehoiodjeaaDoor.Pure
open Go.RowKit Go.Lib Go.Proofs.YtegndehoiodjeaaDoor.Print Go.Proofs.YtegndehoiodjeaaDoor.U Go.Proofs.YtegndehoiodjeaaDoor.Q Go.Proofs.YtegndehoiodjeaaDoorW.PrintWords
set_option linter.unusedVariables false
set_option linter.unusedSimpArgs false

theorem script_tail (l : List S29) (s : ByteArray) (hg : ∀ x ∈ l, goodC x) (hl : (textL (l.map cmOf)).length ≤ 20000000) (hn : l.length ≤ 20000000) (hs : s.size ≤ 20000000) (h10 : ∀ b ∈ L s, b ≠ 10) : ∀ (d i : Nat), i + d = s.size → Ev (fun k => figureheadlaw25_ScriptLine.l0 k l s (i : Int)) true
  | d + 1, i, hd_ => by
    refine succ ?_
    simp only [figureheadlaw25_ScriptLine.l0]
    have hi : i < (L s).length := by rw [L_len]; omega
    have hbt : bt s (i : Int) = (((L s)[i]).toNat : Int) := by rw [btH_L, List.getD_eq_getElem?_getD, List.getElem?_eq_getElem hi]; rfl
    rw [hbt, w64 (x := (i : Int) + 1) (by omega) (by omega)]
    refine pos (by omega) (pos (by omega) (neg (byte_ne _ 10 (h10 _ (List.getElem_mem hi))) ?_))
    have ih := script_tail l s hg hl hn hs h10 d (i + 1) (by omega)
    have e1 : ((i + 1 : Nat) : Int) = (i : Int) + 1 := by omega
    rw [e1] at ih
    exact ih
  | 0, i, hd_ => by
    refine succ ?_
    simp only [figureheadlaw25_ScriptLine.l0]
    refine neg (by omega) ?_
    obtain ⟨y, b, hr, hrb⟩ := rl_val s (by omega)
    rw [hr]
    simp only [Option.bind_some]
    cases b with
    | true => exact pos rfl (Ev.bind answers_ev (Ev.now _))
    | false =>
      have hnone : progL (L s) = none := by
        rw [prog_read]
        cases h : readW (splitC 32 (L s)) with
        | none => rfl
        | some c => rw [h] at hrb; exact absurd hrb.2 (by simp)
      refine neg (by simp [flatC]) ?_
      rw [print_val l hg (by omega)]
      simp only [Option.bind_some]
      obtain ⟨t, ht⟩ : ∃ t, t = textL (l.map cmOf) := ⟨_, rfl⟩
      rw [← ht] at hl ⊢
      have o1 : (⟨#[10]⟩ : ByteArray).size = 1 := rfl
      refine pos (by rw [U.size_mk]; omega) (pos (by simp only [ByteArray.size_append, U.size_mk]; omega) (pos (by simp only [ByteArray.size_append, U.size_mk, o1]; omega) ?_))
      have hp := parse_ev ((((⟨t.toArray⟩ : ByteArray) ++ s) ++ (⟨#[10]⟩ : ByteArray)) ++ ⟨t.toArray⟩) (by simp only [ByteArray.size_append, U.size_mk, o1]; omega)
      have e : L ((((⟨t.toArray⟩ : ByteArray) ++ s) ++ (⟨#[10]⟩ : ByteArray)) ++ ⟨t.toArray⟩) = t ++ (L s ++ 10 :: t) := by
        have o3 : L (⟨#[10]⟩ : ByteArray) = [10] := rfl
        simp only [L_app, L_mk, o3]
        simp
      have hrt : readT (t ++ (L s ++ 10 :: t)) = ([], 1 + (l.length : Int), 16) := by
        unfold readT
        obtain ⟨q, r, hqr⟩ := List.exists_cons_of_ne_nil (splitC_ne 10 t)
        rw [ht, split_text, ← ht, splitC_app 10 (L s) t h10, hqr, run_lines _ (fun c hc => by obtain ⟨x, hx, rfl⟩ := List.mem_map.1 hc; exact cmOf_ok x (hg x hx))]
        simp only [runL]
        rw [hnone, List.length_map]
      rw [e, hrt] at hp
      refine Ev.bind hp (Ev.bind answers_ev (pos rfl (pos rfl (pos ?_ (mk (fun _ => rfl))))))
      rw [w64 (by omega) (by omega)]
      simp only [resP]
      omega
theorem script_find (l : List S29) (s : ByteArray) (hs : s.size ≤ 20000000) (j : Nat) (hj : (L s)[j]? = some 10) : ∀ (d i : Nat), i + d = s.size → i ≤ j → Ev (fun k => figureheadlaw25_ScriptLine.l0 k l s (i : Int)) true
  | 0, i, hd_, hij => by
    have := (List.getElem?_eq_some_iff.1 hj).1
    rw [L_len] at this
    omega
  | d + 1, i, hd_, hij => by
    refine succ ?_
    simp only [figureheadlaw25_ScriptLine.l0]
    have hi : i < (L s).length := by rw [L_len]; omega
    have hbt : bt s (i : Int) = (((L s)[i]).toNat : Int) := by rw [btH_L, List.getD_eq_getElem?_getD, List.getElem?_eq_getElem hi]; rfl
    rw [hbt, w64 (x := (i : Int) + 1) (by omega) (by omega)]
    refine pos (by omega) (pos (by omega) ?_)
    by_cases h10 : (L s)[i] = 10
    · exact pos (by rw [h10]; rfl) (Ev.bind answers_ev (Ev.now _))
    · refine neg (byte_ne _ 10 h10) ?_
      have hne : i ≠ j := fun e => by
        subst e
        rw [List.getElem?_eq_getElem hi] at hj
        exact h10 (Option.some.inj hj)
      have ih := script_find l s hs j hj d (i + 1) (by omega) (by omega)
      have e1 : ((i + 1 : Nat) : Int) = (i : Int) + 1 := by omega
      rw [e1] at ih
      exact ih
theorem ScriptLine : figureheadlaw25_ScriptLine.Pure := by
  intro l s h1 h2 h3 h4
  have hg : ∀ x ∈ l, goodC x := fun x hx => good_of x (h2 x hx) (by have := bulk_le hx; omega)
  have hl := text_len l hg
  have hn := len_bulk l
  refine Ev.rounds (r := true) ?_
  simp only [figureheadlaw25_ScriptLine.f]
  by_cases h10 : ∀ b ∈ L s, b ≠ 10
  · exact script_tail l s hg (by omega) (by omega) (by omega) h10 s.size 0 (by omega)
  · have : ∃ b ∈ L s, b = 10 := by
      apply Classical.byContradiction
      intro h
      exact h10 (fun b hb e => h ⟨b, hb, e⟩)
    obtain ⟨b, hb, rfl⟩ := this
    obtain ⟨j, hj⟩ := List.getElem?_of_mem hb
    exact script_find l s (by omega) j hj s.size 0 (by omega) (Nat.zero_le _)
end Go.Proofs.YtegndehoiodjeaaDoor.Pure
