/- Layer 11, the plain side: what Bad, Runes, Text and the reference's First, Bytes, Runes, Text, Same answer of a text in its one form. -/
import Derived.Test.YtcenacecegleeaaDoorPrint10
import Derived.Test.YtcenacecegleeaaDoorFU
import Derived.Test.YtcenacecegleeaaDoorU
import Derived.Test.YtcenacecegleeaaDoorU
namespace Go.Proofs.YtcenacecegleeaaDoor.Pure
open Go.RowKit Go.Lib Go.Proofs.YtcenacecegleeaaDoor.Print Go.Proofs.YtcenacecegleeaaDoor.U Go.Proofs.YtcenacecegleeaaDoor.Utf Go.Proofs.YtcenacecegleeaaDoorW.PrintWords
set_option linter.unusedVariables false
set_option linter.unusedSimpArgs false

/-! ### the program's own functions -/
theorem dec_at (s : ByteArray) (p : Nat) : Utf8.decode s p = decodeL ((L s).drop p) := (decodeL_drop s p).symm
theorem badFrom_form (s : ByteArray) : ∀ (f p : Nat) (rs : List Int) (rest : List UInt8), s.size ≤ p + f → TextForm ((L s).drop p) rs rest → badFrom s f p = if rest = [] then -1 else (p : Int) + (encAll rs).length
  | 0, p, rs, rest, hf, ⟨ha, h, hr⟩ => by
    have h0 : (L s).drop p = [] := List.drop_eq_nil_of_le (by rw [L_len]; omega)
    rw [h0] at h
    have := List.append_eq_nil_iff.1 h.symm
    rw [if_pos this.2]
    rfl
  | f + 1, p, rs, rest, hf, hform => by
    unfold badFrom
    by_cases hp : p < s.size
    · rw [if_pos hp, dec_at]
      have hne : (L s).drop p ≠ [] := fun h => by
        have := congrArg List.length h
        rw [List.length_drop, L_len, List.length_nil] at this
        omega
      obtain ⟨ha, h, hr⟩ := hform
      cases rs with
      | nil =>
        rw [encAll_nil, List.nil_append] at h
        rw [h] at hne ⊢
        rcases hr with hr | hr
        · exact absurd hr hne
        · unfold Bad at hr
          rw [hr, if_pos ⟨rfl, rfl⟩, if_neg hne, encAll_nil]
          simp
      | cons r rs =>
        have hr0 := ha r (by simp)
        have hd : decodeL ((L s).drop p) = (r.toNat, (encodeRune r).length) := by rw [h, encAll_cons, List.append_assoc, dec_enc r hr0]
        have hnb : ¬ (r.toNat = 65533 ∧ (encodeRune r).length = 1) := fun hh => enc_not_bad r hr0 (encAll rs ++ rest) (by unfold Bad; rw [dec_enc r hr0]; exact Prod.ext hh.1 hh.2)
        rw [hd, if_neg hnb]
        have hdr : (L s).drop (p + (encodeRune r).length) = encAll rs ++ rest := by rw [← List.drop_drop, h, encAll_cons, List.append_assoc, List.drop_left]
        have h1 := (enc_len r).1
        rw [badFrom_form s f (p + (encodeRune r).length) rs rest (by omega) ⟨fun x hx => ha x (by simp [hx]), hdr, hr⟩]
        by_cases hn : rest = []
        · rw [if_pos hn, if_pos hn]
        · rw [if_neg hn, if_neg hn, encAll_cons, List.length_append]
          omega
    · rw [if_neg hp]
      have h0 : (L s).drop p = [] := List.drop_eq_nil_of_le (by rw [L_len]; omega)
      obtain ⟨ha, h, hr⟩ := hform
      rw [h0] at h
      rw [if_pos (List.append_eq_nil_iff.1 h.symm).2]
theorem runesFrom_form (s : ByteArray) : ∀ (f p : Nat) (rs : List Int), s.size ≤ p + f → TextForm ((L s).drop p) rs [] → runesFrom s f p = rs
  | 0, p, rs, hf, ⟨ha, h, hr⟩ => by
    have h0 : (L s).drop p = [] := List.drop_eq_nil_of_le (by rw [L_len]; omega)
    rw [h0, List.append_nil] at h
    cases rs with
    | nil => rfl
    | cons r rs =>
      rw [encAll_cons] at h
      exact absurd (List.append_eq_nil_iff.1 h.symm).1 (enc_ne r)
  | f + 1, p, rs, hf, ⟨ha, h, hr⟩ => by
    unfold runesFrom
    rw [List.append_nil] at h
    by_cases hp : p < s.size
    · rw [if_pos hp, dec_at]
      cases rs with
      | nil =>
        have := congrArg List.length h
        rw [List.length_drop, L_len, encAll_nil, List.length_nil] at this
        omega
      | cons r rs =>
        have hr0 := ha r (by simp)
        have hok := (ok_iff r).1 hr0
        have hd : decodeL ((L s).drop p) = (r.toNat, (encodeRune r).length) := by rw [h, encAll_cons, dec_enc r hr0]
        have hdr : (L s).drop (p + (encodeRune r).length) = encAll rs := by rw [← List.drop_drop, h, encAll_cons, List.drop_left]
        have h1 := (enc_len r).1
        rw [hd, runesFrom_form s f (p + (encodeRune r).length) rs (by omega) ⟨fun x hx => ha x (by simp [hx]), by rw [hdr]; simp, .inl rfl⟩]
        congr 1
        omega
    · rw [if_neg hp]
      have h0 : (L s).drop p = [] := List.drop_eq_nil_of_le (by rw [L_len]; omega)
      rw [h0] at h
      cases rs with
      | nil => rfl
      | cons r rs =>
        rw [encAll_cons] at h
        exact absurd (List.append_eq_nil_iff.1 h.symm).1 (enc_ne r)
theorem bad_val (s : ByteArray) (hs : s.size < 9223372036854775807) (rs : List Int) (rest : List UInt8) (h : TextForm (L s) rs rest) : utf_Bad.f s = some (if rest = [] then -1 else ((encAll rs).length : Int)) := by
  unfold utf_Bad.f
  rw [if_pos hs, badFrom_form s s.size 0 rs rest (by omega) (by simpa using h)]
  simp
theorem runes_val (s : ByteArray) (hs : s.size < 35184372088832) (rs : List Int) (rest : List UInt8) (h : TextForm (L s) rs rest) : utf_Runes.f s = some (if rest = [] then (rs, true) else ([], false)) := by
  unfold utf_Runes.f
  rw [if_pos hs, badFrom_form s s.size 0 rs rest (by omega) (by simpa using h)]
  by_cases hr : rest = []
  · subst hr
    rw [if_pos rfl, if_pos rfl, if_neg (by omega), runesFrom_form s s.size 0 rs (by omega) (by simpa using h)]
  · rw [if_neg hr, if_neg hr, if_pos (by omega)]
theorem all_iff (l : List Int) : l.all Lib.validRune = true ↔ All l := by simp [All]
theorem text_val (l : List Int) (hl : l.length < 35184372088000) : utf_Text.f l = some (if l.all Lib.validRune = true then (⟨(encAll l).toArray⟩, true) else (⟨#[]⟩, false)) := by
  unfold utf_Text.f
  rw [if_pos hl]
  split <;> rfl

/-! ### scalars -/
theorem refScalar_val (r : Int) : figureheadref11_Scalar.f r = some (Lib.validRune r) := by
  unfold figureheadref11_Scalar.f Lib.validRune
  by_cases h0 : r ≥ 0
  · rw [if_pos h0]
    by_cases h1 : r ≤ 1114111
    · rw [if_pos h1]
      by_cases h2 : r < 55296
      · rw [if_pos h2, decide_eq_true (by omega)]
      · rw [if_neg h2]
        congr 1
        apply decide_eq_decide.2
        omega
    · rw [if_neg h1, decide_eq_false (by omega)]
  · rw [if_neg h0, decide_eq_false (by omega)]

/-! ### the reference's own functions -/
theorem refBytes_val (r : Int) (h : Lib.validRune r = true) : figureheadref11_Bytes.f r = some (encodeRuneZ r) := by
  have hr := (ok_iff r).1 h
  unfold figureheadref11_Bytes.f
  rw [w64 (x := r) (by omega) (by omega)]
  have t1 : Int.tdiv r 64 = r / 64 := Int.tdiv_eq_ediv_of_nonneg (by omega)
  have t2 : Int.tdiv r 4096 = r / 4096 := Int.tdiv_eq_ediv_of_nonneg (by omega)
  have t3 : Int.tdiv r 262144 = r / 262144 := Int.tdiv_eq_ediv_of_nonneg (by omega)
  have m1 : Int.tmod r 64 = r % 64 := Int.tmod_eq_emod_of_nonneg (by omega)
  rw [t1, t2, t3, m1, w64 (x := r / 64) (by omega) (by omega), w64 (x := r / 4096) (by omega) (by omega), w64 (x := r / 262144) (by omega) (by omega)]
  have m2 : Int.tmod (r / 64) 64 = r / 64 % 64 := Int.tmod_eq_emod_of_nonneg (by omega)
  have m3 : Int.tmod (r / 4096) 64 = r / 4096 % 64 := Int.tmod_eq_emod_of_nonneg (by omega)
  rw [m2, m3, w64 (x := 192 + r / 64) (by omega) (by omega), w64 (x := 224 + r / 4096) (by omega) (by omega), w64 (x := 240 + r / 262144) (by omega) (by omega), w64 (x := 128 + r % 64) (by omega) (by omega), w64 (x := 128 + r / 64 % 64) (by omega) (by omega), w64 (x := 128 + r / 4096 % 64) (by omega) (by omega)]
  by_cases h1 : r < 128
  · rw [if_pos h1, encodeRuneZ_one (by omega) (by omega), Int.emod_eq_of_lt (by omega) (by omega)]
  rw [if_neg h1]
  by_cases h2 : r < 2048
  · rw [if_pos h2, encodeRuneZ_two (by omega) (by omega), Int.emod_eq_of_lt (a := 192 + r / 64) (by omega) (by omega), Int.emod_eq_of_lt (a := 128 + r % 64) (by omega) (by omega)]
  rw [if_neg h2]
  by_cases h3 : r < 65536
  · rw [if_pos h3, encodeRuneZ_three (by omega), Int.emod_eq_of_lt (a := 224 + r / 4096) (by omega) (by omega), Int.emod_eq_of_lt (a := 128 + r % 64) (by omega) (by omega), Int.emod_eq_of_lt (a := 128 + r / 64 % 64) (by omega) (by omega)]
  · rw [if_neg h3, encodeRuneZ_four (by omega) (by omega), Int.emod_eq_of_lt (a := 240 + r / 262144) (by omega) (by omega), Int.emod_eq_of_lt (a := 128 + r % 64) (by omega) (by omega), Int.emod_eq_of_lt (a := 128 + r / 64 % 64) (by omega) (by omega), Int.emod_eq_of_lt (a := 128 + r / 4096 % 64) (by omega) (by omega)]
theorem str_enc (r : Int) : strOfNums (encodeRuneZ r) = ⟨(encodeRune r).toArray⟩ := by
  unfold strOfNums encodeRune
  rfl
theorem L_str_enc (r : Int) : L (strOfNums (encodeRuneZ r)) = encodeRune r := by rw [str_enc, L_mk]

theorem encAll_len (l : List Int) : (encAll l).length ≤ 4 * l.length := by
  induction l with
  | nil => simp [encAll]
  | cons x l ih =>
    rw [encAll_cons, List.length_append, List.length_cons]
    have := (enc_len x).2
    omega
theorem strOfNums_app (l m : List Int) : L (strOfNums (l ++ m)) = L (strOfNums l) ++ L (strOfNums m) := by simp [strOfNums]

end Go.Proofs.YtcenacecegleeaaDoor.Pure
