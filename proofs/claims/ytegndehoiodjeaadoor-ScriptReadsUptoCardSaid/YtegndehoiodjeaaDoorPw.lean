/- The reference's Read, the plain side: what it answers. -/
import Derived.Test.YtegndehoiodjeaaDoorPt
import Derived.Test.YtegndehoiodjeaaDoorPrint10
namespace Go.Proofs.YtegndehoiodjeaaDoor.Pure
open Go.RowKit Go.Lib Go.Proofs.YtegndehoiodjeaaDoor.Print Go.Proofs.YtegndehoiodjeaaDoor.U Go.Proofs.YtegndehoiodjeaaDoor.Q Go.Proofs.YtegndehoiodjeaaDoorW.PrintWords
set_option linter.unusedVariables false
set_option linter.unusedSimpArgs false

theorem read_l0 (s : ByteArray) (hs : s.size ≤ 100000000) : ∀ (d i at_ n : Nat) (acc : List Cm), i + d = s.size → at_ ≤ i → (∀ b ∈ ((L s).drop at_).take (i - at_), b ≠ 10) → n ≤ i + 1 → acc.length ≤ i →
    Ev (fun k => figureheadref25_Read.l0 k s (acc.map ofCm) (at_ : Int) (n : Int) (i : Int)) (resP (runL progL (splitC 10 ((L s).drop at_)) (n : Int) acc))
  | 0, i, at_, n, acc, hd_, hai, hf, hn, ha => by
    refine succ ?_
    simp only [figureheadref25_Read.l0]
    refine neg (by omega) ?_
    have hf2 : ∀ b ∈ (L s).drop at_, b ≠ 10 := by
      rwa [List.take_of_length_le (by rw [List.length_drop, L_len]; omega)] at hf
    rw [splitC_free 10 _ hf2]
    simp only [runL]
    by_cases hat : at_ < s.size
    · have hne : (L s).drop at_ ≠ [] := fun e => by
        have := congrArg List.length e
        rw [List.length_drop, L_len] at this
        simp at this
        omega
      rw [if_neg hne]
      exact pos (by omega) (Ev.now _)
    · have hnil : (L s).drop at_ = [] := List.drop_of_length_le (by rw [L_len]; omega)
      rw [if_pos hnil]
      exact neg (by omega) (Ev.now _)
  | d + 1, i, at_, n, acc, hd_, hai, hf, hn, ha => by
    refine succ ?_
    simp only [figureheadref25_Read.l0]
    have hi : i < (L s).length := by rw [L_len]; omega
    obtain ⟨b, hb⟩ : ∃ b, b = (L s)[i] := ⟨_, rfl⟩
    have hbt : bt s (i : Int) = (b.toNat : Int) := by rw [btH_L, List.getD_eq_getElem?_getD, List.getElem?_eq_getElem hi, hb]; rfl
    rw [hbt, w64 (x := (i : Int) + 1) (by omega) (by omega), w64 (x := (n : Int) + 1) (by omega) (by omega)]
    refine pos (by omega) (pos (by omega) ?_)
    have e1 : ((i + 1 : Nat) : Int) = (i : Int) + 1 := by omega
    by_cases h10 : b = 10
    · refine pos (by rw [h10]; rfl) (pos (by omega) (pos (by omega) (pos (by omega) ?_)))
      simp only [Int.toNat_natCast]
      have hp : L (s.extract at_ i) = ((L s).drop at_).take (i - at_) := L_ext s at_ i
      obtain ⟨y, r, hr, hrb⟩ := rl_val (s.extract at_ i) (by rw [size_ext]; omega)
      rw [hr]
      simp only [Option.bind_some]
      rw [hp, ← prog_read] at hrb
      have hd : (L s).drop at_ = ((L s).drop at_).take (i - at_) ++ 10 :: (L s).drop (i + 1) := by
        have e2 := (List.take_append_drop (i - at_) ((L s).drop at_)).symm
        rw [List.drop_drop, show at_ + (i - at_) = i by omega, List.drop_eq_getElem_cons hi, ← hb, h10] at e2
        exact e2
      have hs2 : splitC 10 ((L s).drop at_) = ((L s).drop at_).take (i - at_) :: splitC 10 ((L s).drop (i + 1)) := by
        rw [← splitC_app 10 _ _ hf, ← hd]
      obtain ⟨q, t, hqt⟩ := List.exists_cons_of_ne_nil (splitC_ne 10 ((L s).drop (i + 1)))
      obtain ⟨p, hpp⟩ : ∃ p, p = ((L s).drop at_).take (i - at_) := ⟨_, rfl⟩
      rw [← hpp] at hs2 hrb
      have e : runL progL (splitC 10 ((L s).drop at_)) (n : Int) acc = match progL p with
        | none => ([], (n : Int), 16)
        | some c => runL progL (splitC 10 ((L s).drop (i + 1))) ((n : Int) + 1) (acc ++ [c]) := by
        rw [hs2, hqt]
        simp only [runL]
        cases progL p <;> rfl
      rw [e]
      cases hpl : progL p with
      | none =>
        rw [hpl] at hrb
        simp only at hrb
        rw [hrb]
        exact neg (by simp [flatC]) (Ev.now _)
      | some c =>
        rw [hpl] at hrb
        obtain ⟨hy, hrb⟩ := hrb
        rw [hrb, hy]
        refine pos rfl (pos (by rw [List.length_map]; omega) ?_)
        have ih := read_l0 s hs d (i + 1) (i + 1) (n + 1) (acc ++ [c]) (by omega) (Nat.le_refl _) (fun b hb => by simp at hb) (by omega) (by simp; omega)
        have e3 : ((n + 1 : Nat) : Int) = (n : Int) + 1 := by omega
        rw [e1, e3, List.map_append] at ih
        exact ih
    · refine neg (byte_ne b 10 h10) ?_
      have ih := read_l0 s hs d (i + 1) at_ n acc (by omega) (by omega) (fun x hx => by
        rw [show i + 1 - at_ = (i - at_) + 1 by omega, List.take_add_one] at hx
        rcases List.mem_append.1 hx with hx | hx
        · exact hf x hx
        · rw [List.getElem?_drop, show at_ + (i - at_) = i by omega, List.getElem?_eq_getElem hi, ← hb] at hx
          have : x = b := by simpa using hx
          rw [this]; exact h10) (by omega) (by omega)
      rw [e1] at ih
      exact ih
theorem refread_ev (s : ByteArray) (hs : s.size ≤ 100000000) : Ev (fun k => figureheadref25_Read.f k s) (resP (readT (L s))) := by
  simp only [figureheadref25_Read.f]
  exact read_l0 s hs s.size 0 0 1 [] (by omega) (Nat.le_refl _) (fun b hb => by simp at hb) (by omega) (by simp)
end Go.Proofs.YtegndehoiodjeaaDoor.Pure
