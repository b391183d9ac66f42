/- The law DigitGets, the plain side: what any bytes are in a system, and how many of them are digits. -/
import Derived.Test.YtenifjkiiaahiaaDoorPureDigitPuts
namespace Go.Proofs.YtenifjkiiaahiaaDoor.Pure
open Go.RowKit Go.Lib Go.Proofs.YtenifjkiiaahiaaDoor.Print Go.Proofs.YtenifjkiiaahiaaDoor.U Go.Proofs.YtenifjkiiaahiaaDoor.Utf Go.Proofs.YtenifjkiiaahiaaDoorW.PrintWords
set_option linter.unusedVariables false
set_option linter.unusedSimpArgs false

def numsZ (z : Int) (rs : List Int) : List Int := rs.map fun r => (48 + r - z) % 256
theorem L_nums (z : Int) (rs : List Int) : L (strOfNums (numsZ z rs)) = fromZ z rs := by
  unfold strOfNums numsZ fromZ
  rw [L_mk, List.map_map]
  rfl
theorem gets_l0 (z : Int) (hg : goodZ z = true) (s : ByteArray) (hs : s.size ≤ 1000) (R : Bool) (rest : List UInt8) : ∀ (rs acc : List Int) (p : Nat), TextForm ((L s).drop p) rs rest → p ≤ s.size → acc.length ≤ p →
    Ev (fun k => figureheadlaw12_DigitGets.j2 k z s (acc ++ numsZ z (rs.takeWhile (isZ z))) ((p + (encAll (rs.takeWhile (isZ z))).length : Nat) : Int)) R →
    Ev (fun k => figureheadlaw12_DigitGets.l0 k z s acc (p : Int)) R
  | rs, acc, p, ⟨ha, h, hr⟩, hps, hal, fin => by
    have hz := (good_iff z).1 hg
    refine succ ?_
    simp only [figureheadlaw12_DigitGets.l0]
    have hex : L (s.extract p s.size) = (L s).drop p := by rw [L_ext, List.take_of_length_le (by rw [List.length_drop, L_len]; omega)]
    have hf := first_ev (s.extract p s.size) (by rw [size_ext]; omega)
    rw [hex] at hf
    cases rs with
    | nil =>
      have fin' : Ev (fun k => figureheadlaw12_DigitGets.j2 k z s acc (p : Int)) R := by simpa [numsZ, encAll] using fin
      by_cases hlt : p < s.size
      · rw [encAll_nil, List.nil_append] at h
        have hb : firstR ((L s).drop p) = (0, 0) := by
          rcases hr with hr | hr
          · exact if_pos (Or.inl (by rw [h, hr]))
          · exact if_pos (Or.inr (by rw [h]; exact hr))
        rw [hb] at hf
        exact pos (by omega) (pos (by omega) (pos (by omega) (Ev.bind hf (pos rfl fin'))))
      · exact neg (by omega) fin'
    | cons r rs =>
      have hr0 := ha r (by simp)
      have hok := (ok_iff r).1 hr0
      have h1 := enc_len r
      have hcat : (L s).drop p = encodeRune r ++ (encAll rs ++ rest) := by rw [h, encAll_cons, List.append_assoc]
      have hlt : p + (encodeRune r).length ≤ s.size := by
        have := congrArg List.length hcat
        rw [List.length_drop, L_len, List.length_append] at this
        omega
      have hd : decodeL ((L s).drop p) = (r.toNat, (encodeRune r).length) := by rw [hcat, dec_enc r hr0]
      have hnb : ¬ ((L s).drop p = [] ∨ decodeL ((L s).drop p) = (65533, 1)) := by
        rw [hcat]
        exact fun hh => Or.elim hh (fun e => enc_ne r (List.append_eq_nil_iff.1 e).1) (fun e => enc_not_bad r hr0 _ e)
      rw [show firstR ((L s).drop p) = ((r.toNat : Int), ((encodeRune r).length : Int)) from by unfold firstR; rw [if_neg hnb, hd], show (r.toNat : Int) = r by omega] at hf
      refine pos (by omega) (pos (by omega) (pos (by omega) (Ev.bind hf (neg (by simp only; omega) ?_))))
      simp only
      rw [List.takeWhile_cons] at fin
      have no : isZ z r = false → Ev (fun k => figureheadlaw12_DigitGets.j2 k z s acc (p : Int)) R := fun e => by
        rw [e] at fin
        simpa [numsZ, encAll] using fin
      by_cases c1 : r < z
      · exact pos c1 (no (by
          cases e : isZ z r with
          | false => rfl
          | true => have := (isZ_iff z r hg).1 e; omega))
      refine neg c1 ?_
      rw [w32' (x := r - z) (by omega) (by omega), w32' (x := 48 + r) (by omega) (by omega), w32' (x := 48 + r - z) (by omega) (by omega), w64 (by omega) (by omega)]
      by_cases c2 : r - z ≥ 10
      · exact pos c2 (no (by
          cases e : isZ z r with
          | false => rfl
          | true => have := (isZ_iff z r hg).1 e; omega))
      refine neg c2 (pos (by omega) ?_)
      rw [(isZ_iff z r hg).2 ⟨by omega, by omega⟩] at fin
      have := gets_l0 z hg s hs R rest rs (acc ++ [(48 + r - z) % 256]) (p + (encodeRune r).length) ⟨fun x hx => ha x (by simp [hx]), by rw [← List.drop_drop, hcat, List.drop_left], hr⟩ hlt (by simp; omega) (by
        simp only [if_true] at fin
        rw [encAll_cons, List.length_append] at fin
        rw [show p + (encodeRune r).length + (encAll (rs.takeWhile (isZ z))).length = p + ((encodeRune r).length + (encAll (rs.takeWhile (isZ z))).length) by omega]
        simpa [numsZ] using fin)
      simpa using this
theorem DigitGets : figureheadlaw12_DigitGets.Pure := by
  intro z s hz hs
  have hz2 := i32_wf hz
  refine Ev.rounds (r := true) ?_
  simp only [figureheadlaw12_DigitGets.f]
  have yes : ∀ x : Bool, x = true → Ev (fun k => figureheadlaw12_DigitGets.j0 k z s x) true := fun x hx => by
    subst hx
    refine succ ?_
    simp only [figureheadlaw12_DigitGets.j0]
    exact pos (by simp) (Ev.bind answers12 (Ev.now _))
  by_cases h0 : z < 0
  · exact pos h0 (yes _ rfl)
  refine neg h0 (Ev.bind (zero_ev z (by omega) hz2.2) ?_)
  by_cases hg : goodZ z = true
  rotate_left
  · exact neg hg (yes _ rfl)
  refine pos hg ?_
  by_cases h1 : (s.size : Int) > 500
  · exact yes _ (decide_eq_true h1)
  rw [decide_eq_false h1]
  refine succ ?_
  simp only [figureheadlaw12_DigitGets.j0]
  refine neg (by simp) ?_
  obtain ⟨rs, rest, hf⟩ := form (L s)
  have hlen := congrArg List.length hf.2.1
  rw [L_len, List.length_append] at hlen
  refine gets_l0 z hg s (by omega) true rest rs [] 0 (by simpa using hf) (by omega) (by simp) ?_
  rw [List.nil_append, Nat.zero_add]
  refine succ ?_
  simp only [figureheadlaw12_DigitGets.j2]
  rw [get_val z hg s (by omega) rs rest hf, run_val z s (by omega) rs rest hf]
  simp only [Option.bind_some]
  refine pos (by simp) ?_
  have bad : ∀ x : Bool, x = true → ¬ (rs ≠ [] ∧ rest = [] ∧ rs.all (isZ z) = true) → Ev (fun k => figureheadlaw12_DigitGets.j3 k (numsZ z (rs.takeWhile (isZ z))) (getR z rs rest).1 (getR z rs rest).2 x) true := fun x hx hn => by
    rw [getR_no z rs rest hn]
    subst hx
    refine succ ?_
    simp only [figureheadlaw12_DigitGets.j3]
    exact pos (by simp) (Ev.bind answers12 (pos rfl (neg (by simp) (mk (fun _ => by rw [toList_L]; rfl)))))
  have ne : L s = [] → rs = [] := fun e => by
    rw [← L_len, e, List.length_nil] at hlen
    cases rs with
    | nil => rfl
    | cons r rs =>
      rw [encAll_cons, List.length_append] at hlen
      have := (enc_len r).1
      omega
  by_cases h2 : L s = []
  · exact pos (by rw [toList_L]; exact h2) (bad _ rfl (fun hh => hh.1 (ne h2)))
  refine neg (by rw [toList_L]; exact h2) ?_
  by_cases hall : rs.all (isZ z) = true
  · rw [takeWhile_all _ _ hall]
    rw [takeWhile_all _ _ hall] at bad
    by_cases hrest : rest = []
    · have hne : rs ≠ [] := fun e => h2 (by rw [hf.2.1, e, hrest]; rfl)
      rw [decide_eq_false (by rw [hlen, hrest, List.length_nil]; omega), getR_yes z rs rest ⟨hne, hrest, hall⟩]
      refine succ ?_
      simp only [figureheadlaw12_DigitGets.j3]
      refine neg (by simp) (Ev.bind answers12 (pos rfl (pos (by simp) (mk (fun _ => ?_)))))
      rw [toList_L, toList_L, L_nums, L_mk]
      simp
    · have : 1 ≤ rest.length := List.length_pos_iff.2 hrest
      exact bad _ (decide_eq_true (by omega)) (fun hh => hrest hh.2.1)
  · have := encAll_prefix z rs hall
    exact bad _ (decide_eq_true (by omega)) (fun hh => hall hh.2.2)
end Go.Proofs.YtenifjkiiaahiaaDoor.Pure
