/- Words as numbers, the plain side: what the reference's number answers. -/
import Derived.Test.YtegndehoiodjeaaDoorPR
import Derived.Test.YtegndehoiodjeaaDoorPrint3
namespace Go.Proofs.YtegndehoiodjeaaDoor.Pure
open Go.RowKit Go.Lib Go.Proofs.YtegndehoiodjeaaDoor.Print Go.Proofs.YtegndehoiodjeaaDoor.U Go.Proofs.YtegndehoiodjeaaDoor.Q Go.Proofs.YtegndehoiodjeaaDoorW.PrintWords
set_option linter.unusedVariables false
set_option linter.unusedSimpArgs false

/-! ### numbers -/
def numR (s : ByteArray) : Int × Bool := match numL (L s) with
  | some n => (n, true)
  | none => (0, false)
def finN (frm : Nat) (v : Nat) : Int := if frm = 1 then -(v : Int) else (v : Int)
theorem neg_fin (v : Nat) (h : v ≤ 9223372036854775808) : wrap64 ((wrap64 (-(wrap64 (IntKind.u64.wrap ((v : Int) - 1))))) - 1) = -(v : Int) := by
  rw [IntKind.wrap_u64]
  unfold wrap64
  omega
theorem u64_in (x : Int) (h0 : 0 ≤ x) (h1 : x < 18446744073709551616) : IntKind.u64.wrap x = x := by
  rw [IntKind.wrap_u64]
  omega
theorem num_l0 (s : ByteArray) (frm most : Nat) (hf : frm ≤ 1) (hm : most ≤ 9223372036854775808) (hm0 : frm = 0 → most ≤ 9223372036854775807) (hs : s.size ≤ frm + 19) : ∀ (d i acc : Nat), i + d = s.size → frm ≤ i → acc < 10 ^ (i - frm) →
    Ev (fun k => figureheadref25_number.l0 k s (frm : Int) (most : Int) (acc : Int) (i : Int)) (if ((L s).drop i).all isD = true ∧ valF acc ((L s).drop i) ≤ most then (finN frm (valF acc ((L s).drop i)), true) else (0, false))
  | 0, i, acc, hd_, hi, ha => by
    refine succ ?_
    simp only [figureheadref25_number.l0]
    rw [List.drop_of_length_le (by rw [L_len]; omega)]
    refine neg (by omega) ?_
    have e : valF acc [] = acc := rfl
    rw [e]
    by_cases h : acc ≤ most
    · rw [if_pos (show (([] : List UInt8).all isD = true ∧ acc ≤ most) from ⟨rfl, h⟩)]
      refine neg (by omega) ?_
      by_cases h1 : frm = 1
      · refine pos (by omega) ?_
        rw [neg_fin acc (by omega)]
        unfold finN
        rw [if_pos h1]
        exact Ev.now _
      · refine neg (by omega) ?_
        rw [w64 (by omega) (by have := hm0 (by omega); omega)]
        unfold finN
        rw [if_neg h1]
        exact Ev.now _
    · rw [if_neg (show ¬ (([] : List UInt8).all isD = true ∧ acc ≤ most) from fun x => h x.2)]
      exact pos (by omega) (Ev.now _)
  | d + 1, i, acc, hd_, hi, ha => by
    refine succ ?_
    simp only [figureheadref25_number.l0]
    have h0 : i < (L s).length := by rw [L_len]; omega
    obtain ⟨b, hb⟩ : ∃ b, b = (L s)[i] := ⟨_, rfl⟩
    have hbt : bt s (i : Int) = (b.toNat : Int) := by rw [btH_L, List.getD_eq_getElem?_getD, List.getElem?_eq_getElem h0, hb]; rfl
    rw [List.drop_eq_getElem_cons h0, ← hb, hbt, w64 (x := (i : Int) + 1) (by omega) (by omega)]
    refine pos (by omega) (pos (by omega) ?_)
    have hlt := b.toNat_lt
    by_cases h1 : b.toNat < 48
    · rw [if_neg (fun x => by have := of_decide_eq_true (show isD b = true by have := x.1; simp at this; exact this.1); omega)]
      exact pos (by omega) (Ev.now _)
    by_cases h2 : 57 < b.toNat
    · rw [if_neg (fun x => by have := of_decide_eq_true (show isD b = true by have := x.1; simp at this; exact this.1); omega)]
      exact neg (by omega) (pos (by omega) (Ev.now _))
    refine neg (by omega) (neg (by omega) ?_)
    have hp : (10 : Nat) ^ (i + 1 - frm) = 10 ^ (i - frm) * 10 := by rw [show i + 1 - frm = (i - frm) + 1 by omega, Nat.pow_succ]
    have hp19 : (10 : Nat) ^ (i + 1 - frm) ≤ 10 ^ 19 := Nat.pow_le_pow_right (by omega) (by omega)
    have h19 : (10 : Nat) ^ 19 = 10000000000000000000 := by decide +kernel
    have ha2 : acc * 10 + (b.toNat - 48) < 10 ^ (i + 1 - frm) := by omega
    rw [u64_in ((acc : Int) * 10) (by omega) (by omega), u64_in _ (by omega) (by omega)]
    have e : (acc : Int) * 10 + ((b.toNat : Int) - 48) % 256 = ((acc * 10 + (b.toNat - 48) : Nat) : Int) := by omega
    rw [e]
    have ih := num_l0 s frm most hf hm hm0 hs d (i + 1) (acc * 10 + (b.toNat - 48)) (by omega) (by omega) ha2
    have hd : isD b = true := decide_eq_true (by omega)
    have ev : valF acc (b :: (L s).drop (i + 1)) = valF (acc * 10 + (b.toNat - 48)) ((L s).drop (i + 1)) := rfl
    rw [List.all_cons, hd, Bool.true_and, ev]
    exact ih
theorem num_j1 (s : ByteArray) (frm most : Nat) (hf : frm ≤ 1) (hs : s.size ≤ 1000000000000) (hfs : frm ≤ s.size) (hm : most ≤ 9223372036854775808) (hm0 : frm = 0 → most ≤ 9223372036854775807) (t : List UInt8) (ht : (L s).drop frm = t) :
    Ev (fun k => figureheadref25_number.j1 k s (frm : Int) (most : Int)) (if t ≠ [] ∧ t.length ≤ 19 ∧ (t.head? = some 48 → L s = [48]) ∧ t.all isD = true ∧ valF 0 t ≤ most then (finN frm (valF 0 t), true) else (0, false)) := by
  have htl : t.length = s.size - frm := by rw [← ht, List.length_drop, L_len]
  refine succ ?_
  simp only [figureheadref25_number.j1]
  have bad : Ev (fun k => figureheadref25_number.j2 k s (frm : Int) (most : Int) true) (0, false) := by
    refine succ ?_
    simp only [figureheadref25_number.j2]
    exact pos (by simp) (Ev.now _)
  have good : t.length ≤ 19 → Ev (fun k => figureheadref25_number.j2 k s (frm : Int) (most : Int) false) (if t.all isD = true ∧ valF 0 t ≤ most then (finN frm (valF 0 t), true) else (0, false)) := fun h19 => by
    refine succ ?_
    simp only [figureheadref25_number.j2]
    refine neg (by simp) ?_
    have := num_l0 s frm most hf hm hm0 (by omega) (s.size - frm) frm 0 (by omega) (Nat.le_refl _) (by simp)
    rw [ht] at this
    exact this
  by_cases h1 : s.size = frm
  · rw [if_neg (fun x => x.1 (List.eq_nil_of_length_eq_zero (by omega)))]
    exact pos (by omega) bad
  refine neg (by omega) ?_
  rw [w64 (by omega) (by omega)]
  by_cases h2 : t.length ≤ 19
  · refine neg (by omega) (pos (by omega) (pos (by omega) ?_))
    obtain ⟨b, r, hbr⟩ : ∃ b r, t = b :: r := List.exists_cons_of_ne_nil (fun e => by rw [e] at htl; simp at htl; omega)
    have hbt : bt s (frm : Int) = (b.toNat : Int) := by
      have e : (L s)[frm]? = some b := by
        have := congrArg List.head? ht
        rw [hbr, List.head?_drop] at this
        exact this
      rw [btH_L, List.getD_eq_getElem?_getD, e]; rfl
    rw [hbt]
    by_cases h48 : b = 48
    · refine pos (by rw [h48]; rfl) ?_
      rw [toList_L]
      by_cases hz : L s = [48]
      · have e : (L s != ([48] : List UInt8)) = false := by rw [hz]; rfl
        rw [e]
        have := good h2
        by_cases hc : t.all isD = true ∧ valF 0 t ≤ most
        · rw [if_pos ⟨by rw [hbr]; simp, h2, fun _ => hz, hc⟩]
          rw [if_pos hc] at this
          exact this
        · rw [if_neg (fun x => hc x.2.2.2)]
          rw [if_neg hc] at this
          exact this
      · have e : (L s != ([48] : List UInt8)) = true := bne_iff_ne.2 hz
        rw [e, if_neg (fun x => hz (x.2.2.1 (by rw [hbr, h48]; rfl)))]
        exact bad
    · refine neg (byte_ne b 48 h48) ?_
      have := good h2
      have hh : t.head? ≠ some 48 := by rw [hbr]; simpa using h48
      by_cases hc : t.all isD = true ∧ valF 0 t ≤ most
      · rw [if_pos ⟨by rw [hbr]; simp, h2, fun x => absurd x hh, hc⟩]
        rw [if_pos hc] at this
        exact this
      · rw [if_neg (fun x => hc x.2.2.2)]
        rw [if_neg hc] at this
        exact this
  · rw [if_neg (fun x => h2 x.2.1)]
    exact pos (by omega) bad
theorem number_ev (s : ByteArray) (hs : s.size ≤ 1000000000000) : Ev (fun k => figureheadref25_number.f k s) (numR s) := by
  simp only [figureheadref25_number.f]
  have j0f : Ev (fun k => figureheadref25_number.j0 k s 0 9223372036854775807 false) (if L s ≠ [] ∧ (L s).length ≤ 19 ∧ ((L s).head? = some 48 → L s = [48]) ∧ (L s).all isD = true ∧ valF 0 (L s) ≤ 9223372036854775807 then ((valF 0 (L s) : Int), true) else (0, false)) := by
    refine succ ?_
    simp only [figureheadref25_number.j0]
    refine neg (by simp) ?_
    exact num_j1 s 0 9223372036854775807 (by omega) hs (by omega) (by omega) (fun _ => Nat.le_refl _) (L s) rfl
  by_cases h0 : s.size = 0
  · refine neg (by omega) ?_
    have hl : L s = [] := List.eq_nil_of_length_eq_zero (by rw [L_len]; exact h0)
    have e : numR s = (0, false) := by unfold numR; rw [hl]; rfl
    rw [if_neg (fun x => x.1 hl)] at j0f
    rw [e]
    exact j0f
  · obtain ⟨b, r, hl⟩ : ∃ b r, L s = b :: r := List.exists_cons_of_ne_nil (fun e => by have := L_len s; rw [e] at this; simp at this; omega)
    refine pos (by omega) (pos (by omega) ?_)
    rw [bt_zero s b r hl]
    by_cases hb : b = 45
    · have e : ((b.toNat : Int) == 45) = true := by rw [hb]; rfl
      rw [e]
      refine succ ?_
      simp only [figureheadref25_number.j0]
      refine pos (by simp) ?_
      have hj := num_j1 s 1 9223372036854775808 (by omega) hs (by omega) (by omega) (fun h => by omega) r (by rw [hl]; rfl)
      have hne : L s ≠ [48] := by rw [hl, hb]; intro e; have := List.head_eq_of_cons_eq e; revert this; decide
      unfold numR numL
      rw [hl, if_pos (by rw [hb]; rfl), List.tail_cons]
      by_cases hc : r ≠ [] ∧ r.length ≤ 19 ∧ r.head? ≠ some 48 ∧ r.all isD = true ∧ valF 0 r ≤ 9223372036854775808
      · rw [if_pos hc]
        rw [if_pos ⟨hc.1, hc.2.1, fun x => absurd x hc.2.2.1, hc.2.2.2⟩] at hj
        exact hj
      · rw [if_neg hc]
        rw [if_neg (fun x => hc ⟨x.1, x.2.1, fun y => hne (x.2.2.1 y), x.2.2.2⟩)] at hj
        exact hj
    · have e : ((b.toNat : Int) == 45) = false := beq_eq_false_iff_ne.2 (byte_ne b 45 hb)
      rw [e]
      unfold numR numL
      rw [if_neg (by rw [hl]; simpa using hb)]
      by_cases hc : L s ≠ [] ∧ (L s).length ≤ 19 ∧ ((L s).head? = some 48 → L s = [48]) ∧ (L s).all isD = true ∧ valF 0 (L s) ≤ 9223372036854775807
      · rw [if_pos hc] at j0f ⊢
        exact j0f
      · rw [if_neg hc] at j0f ⊢
        exact j0f
end Go.Proofs.YtegndehoiodjeaaDoor.Pure
