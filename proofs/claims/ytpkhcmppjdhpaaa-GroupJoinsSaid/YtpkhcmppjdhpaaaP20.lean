/- Layer 20, the plain side: the printed functions of Split, Reverse and the reference's Groups answer with one list of parts. -/
import Derived.Test.YtpkhcmppjdhpaaaPrint
import Derived.Test.YtpkhcmppjdhpaaaU
import Derived.Lib.Join
namespace Go.Proofs.Ytpkhcmppjdhpaaa.Pure
open Go.RowKit Go.Proofs.Ytpkhcmppjdhpaaa.Print Go.Proofs.Ytpkhcmppjdhpaaa.U Go.Proofs.YtpkhcmppjdhpaaaW.PrintWords
set_option linter.unusedVariables false
set_option linter.unusedSimpArgs false

theorem rev_l0 (n : Nat) (hn : n ≤ 1000000000000000000) : ∀ (d : Nat) (xs : List ByteArray) (i j : Int), xs.length = n → 0 ≤ i → i + j = n - 1 → j - i + 1 ≤ d →
    ∃ r, Ev (fun k => slices_Reverse_string_string.l0 k xs i j) r ∧ r.length = n ∧ ∀ p : Nat, p < n → r[p]? = if i ≤ p ∧ (p : Int) ≤ j then xs[n - 1 - p]? else xs[p]?
  | 0, xs, i, j, hl, hi, hij, hd => by
    refine ⟨xs, succ ?_, hl, fun p hp => ?_⟩
    · simp only [slices_Reverse_string_string.l0]
      exact neg (by omega) (Ev.now xs)
    · rw [if_neg (by omega)]
  | d + 1, xs, i, j, hl, hi, hij, hd => by
    by_cases h : i < j
    · obtain ⟨r, hr, hrl, hrp⟩ := rev_l0 n hn d ((xs.set i.toNat (rdOf ByteArray.empty xs j)).set j.toNat (rdOf ByteArray.empty xs i)) (i + 1) (j - 1) (by simp [hl]) (by omega) (by omega) (by omega)
      refine ⟨r, succ ?_, hrl, fun p hp => ?_⟩
      · simp only [slices_Reverse_string_string.l0]
        rw [w64 (by omega) (by omega), w64 (by omega) (by omega)]
        exact pos h (pos (by omega) (pos (by omega) (pos (by omega) (pos (by omega) hr))))
      · rw [hrp p hp]
        have hjn : j.toNat < n := by omega
        have hin : i.toNat < n := by omega
        have ej : rdOf ByteArray.empty xs j = xs[j.toNat]'(by omega) := by rw [rdOf_eq, List.getD_eq_getElem?_getD, List.getElem?_eq_getElem (by omega)]; rfl
        have ei : rdOf ByteArray.empty xs i = xs[i.toNat]'(by omega) := by rw [rdOf_eq, List.getD_eq_getElem?_getD, List.getElem?_eq_getElem (by omega)]; rfl
        by_cases c : i + 1 ≤ p ∧ (p : Int) ≤ j - 1
        · rw [if_pos c, if_pos (by omega), List.getElem?_set_ne (by omega), List.getElem?_set_ne (by omega)]
        · rw [if_neg c]
          by_cases c1 : i ≤ p ∧ (p : Int) ≤ j
          · rw [if_pos c1]
            rcases (show (p : Int) = i ∨ (p : Int) = j by omega) with e | e
            · have e' : p = i.toNat := by omega
              rw [List.getElem?_set_ne (by omega), ← e', List.getElem?_set_self (by omega), ej, ← List.getElem?_eq_getElem, show n - 1 - p = j.toNat by omega]
            · have e' : p = j.toNat := by omega
              rw [← e', List.getElem?_set_self (by simp; omega), ei, ← List.getElem?_eq_getElem, show n - 1 - p = i.toNat by omega]
          · rw [if_neg c1, List.getElem?_set_ne (by omega), List.getElem?_set_ne (by omega)]
    · refine ⟨xs, succ ?_, hl, fun p hp => ?_⟩
      · simp only [slices_Reverse_string_string.l0]
        exact neg h (Ev.now xs)
      · by_cases c : i ≤ p ∧ (p : Int) ≤ j
        · rw [if_pos c, show n - 1 - p = p by omega]
        · rw [if_neg c]
theorem rev_ev (xs : List ByteArray) (hn : xs.length ≤ 1000000000000000000) : Ev (fun k => slices_Reverse_string_string.f k xs) xs.reverse := by
  obtain ⟨r, hr, hl, hp⟩ := rev_l0 xs.length hn (xs.length + 1) xs 0 ((xs.length : Int) - 1) rfl (by omega) (by omega) (by omega)
  have e : r = xs.reverse := by
    apply List.ext_getElem?
    intro p
    by_cases h : p < xs.length
    · rw [hp p h, if_pos (by omega), List.getElem?_reverse h]
    · rw [List.getElem?_eq_none (by omega), List.getElem?_eq_none (by simp; omega)]
  subst e
  have e2 : wrap64 ((xs.length : Int) - 1) = (xs.length : Int) - 1 := w64 (by omega) (by omega)
  simp only [slices_Reverse_string_string.f, e2]
  exact hr

/-- The parts, from the end on: each of the given size, what is left ahead. -/
def parts : Nat → ByteArray → Int → Int → List ByteArray
  | 0, s, _, _ => [s]
  | f + 1, s, size, sec => if (s.size : Int) > size then parts f (s.extract 0 ((s.size : Int) - size).toNat) sec sec ++ [s.extract ((s.size : Int) - size).toNat s.size] else [s]
theorem parts_len : ∀ (f : Nat) (s : ByteArray) (size sec : Int), (parts f s size sec).length ≤ f + 1
  | 0, _, _, _ => by simp [parts]
  | f + 1, s, size, sec => by
    unfold parts
    split
    · have := parts_len f (s.extract 0 ((s.size : Int) - size).toNat) sec sec
      simp; omega
    · simp
theorem split_l0 (sec : Int) (hs2 : 1 ≤ sec) : ∀ (f : Nat) (s : ByteArray) (size : Int) (acc : List ByteArray), 1 ≤ size → s.size ≤ f → acc.length + f < 1000000 →
    Ev (fun k => group_Split.l0 k s sec acc size) (parts f s size sec ++ acc.reverse)
  | 0, s, size, acc, h1, hf, ha => by
    refine succ ?_
    simp only [group_Split.l0]
    refine neg (by omega) (pos (by omega) ?_)
    have := rev_ev (acc ++ [s]) (by simp; omega)
    rw [List.reverse_append] at this
    exact Ev.bind this (Ev.now _)
  | f + 1, s, size, acc, h1, hf, ha => by
    refine succ ?_
    simp only [group_Split.l0]
    unfold parts
    by_cases h : (s.size : Int) > size
    · rw [if_pos h]
      rw [w64 (by omega) (by omega)]
      refine pos h (pos (by omega) (pos (by omega) (pos (by omega) ?_)))
      have := split_l0 sec hs2 f (s.extract 0 ((s.size : Int) - size).toNat) sec (acc ++ [s.extract ((s.size : Int) - size).toNat s.size]) hs2 (by rw [size_ext]; omega) (by simp; omega)
      rw [List.reverse_append] at this
      simpa [List.append_assoc] using this
    · rw [if_neg h]
      refine neg h (pos (by omega) ?_)
      have := rev_ev (acc ++ [s]) (by simp; omega)
      rw [List.reverse_append] at this
      exact Ev.bind this (Ev.now _)
/-- What Split answers. -/
def splitR (s : ByteArray) (p q : Int) : List ByteArray := if p < 1 then [s] else parts s.size s p (if q < 1 then p else q)
theorem split_ev (s : ByteArray) (p q : Int) (hs : s.size ≤ 100000) : Ev (fun k => group_Split.f k s p q) (splitR s p q) := by
  unfold splitR
  simp only [group_Split.f]
  by_cases h : p < 1
  · rw [if_pos h]; exact pos h (Ev.now _)
  · rw [if_neg h]
    refine neg h ?_
    have key : ∀ q' : Int, 1 ≤ q' → Ev (fun k => group_Split.j0 k s p q') (parts s.size s p q') := fun q' hq => by
      refine succ ?_
      simp only [group_Split.j0]
      have := split_l0 q' hq s.size s p [] (by omega) (Nat.le_refl _) (by simp; omega)
      simpa using this
    by_cases h2 : q < 1
    · rw [if_pos h2]; exact pos h2 (key p (by omega))
    · rw [if_neg h2]; exact neg h2 (key q (by omega))
theorem groups_l0 (sec : Int) (hs2 : 1 ≤ sec) : ∀ (f : Nat) (s : ByteArray) (size : Int) (acc : List ByteArray), 1 ≤ size → s.size ≤ f → acc.length + f < 1000000 →
    Ev (fun k => figureheadref18_Groups.l0 k s sec acc size) (parts f s size sec ++ acc)
  | 0, s, size, acc, h1, hf, ha => by
    refine succ ?_
    simp only [figureheadref18_Groups.l0, Option.bind_some]
    exact neg (by omega) (pos (by simp; omega) (Ev.now _))
  | f + 1, s, size, acc, h1, hf, ha => by
    refine succ ?_
    simp only [figureheadref18_Groups.l0, Option.bind_some]
    unfold parts
    by_cases h : (s.size : Int) > size
    · rw [if_pos h]
      rw [w64 (by omega) (by omega)]
      refine pos h (pos (by omega) (pos (by omega) (pos (by simp; omega) ?_)))
      have := groups_l0 sec hs2 f (s.extract 0 ((s.size : Int) - size).toNat) sec ([s.extract ((s.size : Int) - size).toNat s.size] ++ acc) hs2 (by rw [size_ext]; omega) (by simp; omega)
      simpa [List.append_assoc] using this
    · rw [if_neg h]
      exact neg h (pos (by simp; omega) (Ev.now _))
theorem groups_ev (s : ByteArray) (p q : Int) (hs : s.size ≤ 100000) : Ev (fun k => figureheadref18_Groups.f k s p q) (splitR s p q) := by
  unfold splitR
  simp only [figureheadref18_Groups.f]
  by_cases h : p < 1
  · rw [if_pos h]; exact pos h (Ev.now _)
  · rw [if_neg h]
    refine neg h ?_
    have key : ∀ q' : Int, 1 ≤ q' → Ev (fun k => figureheadref18_Groups.j0 k s p q') (parts s.size s p q') := fun q' hq => by
      refine succ ?_
      simp only [figureheadref18_Groups.j0]
      have := groups_l0 q' hq s.size s p [] (by omega) (Nat.le_refl _) (by simp; omega)
      simpa using this
    by_cases h2 : q < 1
    · rw [if_pos h2]; exact pos h2 (key p (by omega))
    · rw [if_neg h2]; exact neg h2 (key q (by omega))
theorem splitR_len (s : ByteArray) (p q : Int) : (splitR s p q).length ≤ s.size + 1 := by
  unfold splitR
  split
  · simp
  · exact parts_len _ _ _ _

theorem join_val (l : List ByteArray) (sep : ByteArray) (h : l.length ≤ 140737488355328) (h2 : (Lib.join (l.map (·.data.toList)) sep.data.toList).length ≤ 140737488355328) :
    group_Join.f l sep = some ⟨(Lib.join (l.map (·.data.toList)) sep.data.toList).toArray⟩ := by
  simp only [group_Join.f, strings_Join.f]
  rw [if_pos ⟨h, h2⟩]
  rfl

theorem answers20_parts : splitR ⟨#[49, 50, 51, 52, 53, 54, 55]⟩ 3 2 = [⟨#[49, 50]⟩, ⟨#[51, 52]⟩, ⟨#[53, 54, 55]⟩] := by decide +kernel
theorem answers20 : Ev (fun k => figureheadlaw20_answers.f k) true := by
  simp only [figureheadlaw20_answers.f]
  have h := split_ev ⟨#[49, 50, 51, 52, 53, 54, 55]⟩ 3 2 (by decide)
  rw [answers20_parts] at h
  refine Ev.bind h ?_
  have hj : group_Join.f [⟨#[49, 50]⟩, ⟨#[51, 52]⟩, ⟨#[53, 54, 55]⟩] ⟨#[44]⟩ = some ⟨#[49, 50, 44, 51, 52, 44, 53, 54, 55]⟩ := join_val _ _ (by decide) (by decide)
  exact mk (fun k => by rw [hj]; decide +kernel)
end Go.Proofs.Ytpkhcmppjdhpaaa.Pure
