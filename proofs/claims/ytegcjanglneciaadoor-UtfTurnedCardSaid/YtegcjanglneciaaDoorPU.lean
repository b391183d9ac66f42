/- Layer 11, the plain side: what Bad, Runes, Text and the reference's First, Bytes, Runes, Text, Same answer of a text in its one form. -/
import Derived.Test.YtegcjanglneciaaDoorPrint2
import Derived.Test.YtegcjanglneciaaDoorFU
import Derived.Test.YtegcjanglneciaaDoorU
import Derived.Test.YtegcjanglneciaaDoorU
import Derived.Test.YtegcjanglneciaaDoorPG
namespace Go.Proofs.YtegcjanglneciaaDoor.Pure
open Go.RowKit Go.Lib Go.Proofs.YtegcjanglneciaaDoor.Print Go.Proofs.YtegcjanglneciaaDoor.U Go.Proofs.YtegcjanglneciaaDoor.Utf Go.Proofs.YtegcjanglneciaaDoorW.PrintWords
set_option linter.unusedVariables false
set_option linter.unusedSimpArgs false

/-! ### the program's own functions -/
theorem dec_at (s : ByteArray) (p : Nat) : Utf8.decode s p = decodeL ((L s).drop p) := (decodeL_drop s p).symm
theorem badFrom_form (s : ByteArray) : ∀ (f p : Nat) (rs : List Int) (rest : List UInt8), s.size ≤ p + f → TextForm ((L s).drop p) rs rest → badFrom s f p = if rest = [] then -1 else (p : Int) + (encAll rs).length
  | 0, p, rs, rest, hf, ⟨ha, h, hr⟩ => by
    have h0 : (L s).drop p = [] := List.drop_eq_nil_of_le (by rw [L_len]; omega)
    rw [h0] at h
    have := List.append_eq_nil_iff.1 h.symm
    rw [if_pos this.2]
    rfl
  | f + 1, p, rs, rest, hf, hform => by
    unfold badFrom
    by_cases hp : p < s.size
    · rw [if_pos hp, dec_at]
      have hne : (L s).drop p ≠ [] := fun h => by
        have := congrArg List.length h
        rw [List.length_drop, L_len, List.length_nil] at this
        omega
      obtain ⟨ha, h, hr⟩ := hform
      cases rs with
      | nil =>
        rw [encAll_nil, List.nil_append] at h
        rw [h] at hne ⊢
        rcases hr with hr | hr
        · exact absurd hr hne
        · unfold Bad at hr
          rw [hr, if_pos ⟨rfl, rfl⟩, if_neg hne, encAll_nil]
          simp
      | cons r rs =>
        have hr0 := ha r (by simp)
        have hd : decodeL ((L s).drop p) = (r.toNat, (encodeRune r).length) := by rw [h, encAll_cons, List.append_assoc, dec_enc r hr0]
        have hnb : ¬ (r.toNat = 65533 ∧ (encodeRune r).length = 1) := fun hh => enc_not_bad r hr0 (encAll rs ++ rest) (by unfold Bad; rw [dec_enc r hr0]; exact Prod.ext hh.1 hh.2)
        rw [hd, if_neg hnb]
        have hdr : (L s).drop (p + (encodeRune r).length) = encAll rs ++ rest := by rw [← List.drop_drop, h, encAll_cons, List.append_assoc, List.drop_left]
        have h1 := (enc_len r).1
        rw [badFrom_form s f (p + (encodeRune r).length) rs rest (by omega) ⟨fun x hx => ha x (by simp [hx]), hdr, hr⟩]
        by_cases hn : rest = []
        · rw [if_pos hn, if_pos hn]
        · rw [if_neg hn, if_neg hn, encAll_cons, List.length_append]
          omega
    · rw [if_neg hp]
      have h0 : (L s).drop p = [] := List.drop_eq_nil_of_le (by rw [L_len]; omega)
      obtain ⟨ha, h, hr⟩ := hform
      rw [h0] at h
      rw [if_pos (List.append_eq_nil_iff.1 h.symm).2]
theorem runesFrom_form (s : ByteArray) : ∀ (f p : Nat) (rs : List Int), s.size ≤ p + f → TextForm ((L s).drop p) rs [] → runesFrom s f p = rs
  | 0, p, rs, hf, ⟨ha, h, hr⟩ => by
    have h0 : (L s).drop p = [] := List.drop_eq_nil_of_le (by rw [L_len]; omega)
    rw [h0, List.append_nil] at h
    cases rs with
    | nil => rfl
    | cons r rs =>
      rw [encAll_cons] at h
      exact absurd (List.append_eq_nil_iff.1 h.symm).1 (enc_ne r)
  | f + 1, p, rs, hf, ⟨ha, h, hr⟩ => by
    unfold runesFrom
    rw [List.append_nil] at h
    by_cases hp : p < s.size
    · rw [if_pos hp, dec_at]
      cases rs with
      | nil =>
        have := congrArg List.length h
        rw [List.length_drop, L_len, encAll_nil, List.length_nil] at this
        omega
      | cons r rs =>
        have hr0 := ha r (by simp)
        have hok := (ok_iff r).1 hr0
        have hd : decodeL ((L s).drop p) = (r.toNat, (encodeRune r).length) := by rw [h, encAll_cons, dec_enc r hr0]
        have hdr : (L s).drop (p + (encodeRune r).length) = encAll rs := by rw [← List.drop_drop, h, encAll_cons, List.drop_left]
        have h1 := (enc_len r).1
        rw [hd, runesFrom_form s f (p + (encodeRune r).length) rs (by omega) ⟨fun x hx => ha x (by simp [hx]), by rw [hdr]; simp, .inl rfl⟩]
        congr 1
        omega
    · rw [if_neg hp]
      have h0 : (L s).drop p = [] := List.drop_eq_nil_of_le (by rw [L_len]; omega)
      rw [h0] at h
      cases rs with
      | nil => rfl
      | cons r rs =>
        rw [encAll_cons] at h
        exact absurd (List.append_eq_nil_iff.1 h.symm).1 (enc_ne r)
theorem bad_val (s : ByteArray) (hs : s.size < 9223372036854775807) (rs : List Int) (rest : List UInt8) (h : TextForm (L s) rs rest) : utf_Bad.f s = some (if rest = [] then -1 else ((encAll rs).length : Int)) := by
  unfold utf_Bad.f
  rw [if_pos hs, badFrom_form s s.size 0 rs rest (by omega) (by simpa using h)]
  simp
theorem runes_val (s : ByteArray) (hs : s.size < 35184372088832) (rs : List Int) (rest : List UInt8) (h : TextForm (L s) rs rest) : utf_Runes.f s = some (if rest = [] then (rs, true) else ([], false)) := by
  unfold utf_Runes.f
  rw [if_pos hs, badFrom_form s s.size 0 rs rest (by omega) (by simpa using h)]
  by_cases hr : rest = []
  · subst hr
    rw [if_pos rfl, if_pos rfl, if_neg (by omega), runesFrom_form s s.size 0 rs (by omega) (by simpa using h)]
  · rw [if_neg hr, if_neg hr, if_pos (by omega)]
theorem count_val (s : ByteArray) (hs : s.size < 35184372088832) (rs : List Int) (rest : List UInt8) (h : TextForm (L s) rs rest) : utf_Count.f s = some (if rest = [] then (rs.length : Int) else 0) := by
  unfold utf_Count.f
  rw [runes_val s hs rs rest h]
  by_cases hr : rest = []
  · rw [if_pos hr, if_pos hr]; rfl
  · rw [if_neg hr, if_neg hr]; rfl
theorem all_iff (l : List Int) : l.all Lib.validRune = true ↔ All l := by simp [All]
theorem text_val (l : List Int) (hl : l.length < 35184372088000) : utf_Text.f l = some (if l.all Lib.validRune = true then (⟨(encAll l).toArray⟩, true) else (⟨#[]⟩, false)) := by
  unfold utf_Text.f
  rw [if_pos hl]
  split <;> rfl

theorem str_enc (r : Int) : strOfNums (encodeRuneZ r) = ⟨(encodeRune r).toArray⟩ := by
  unfold strOfNums encodeRune
  rfl
theorem L_str_enc (r : Int) : L (strOfNums (encodeRuneZ r)) = encodeRune r := by rw [str_enc, L_mk]
theorem same_l0 (l m : List Int) (hl : l.length = m.length) (hb : l.length ≤ 1000000000) : ∀ (d i : Nat), i + d = l.length → Ev (fun k => figureheadref11_Same.l0 k l m (i : Int)) (decide (l.drop i = m.drop i))
  | 0, i, hd => by
    refine succ ?_
    simp only [figureheadref11_Same.l0]
    rw [List.drop_of_length_le (by omega), List.drop_of_length_le (by omega)]
    exact neg (by omega) (Ev.now _)
  | d + 1, i, hd => by
    refine succ ?_
    simp only [figureheadref11_Same.l0]
    refine pos (by omega) (pos (by omega) (pos (by omega) ?_))
    have e1 : rd l (i : Int) = l[i]'(by omega) := by rw [rd_eq, List.getD_eq_getElem?_getD, Int.toNat_natCast, List.getElem?_eq_getElem (by omega)]; rfl
    have e2 : rd m (i : Int) = m[i]'(by omega) := by rw [rd_eq, List.getD_eq_getElem?_getD, Int.toNat_natCast, List.getElem?_eq_getElem (by omega)]; rfl
    have d1 : l.drop i = l[i]'(by omega) :: l.drop (i + 1) := List.drop_eq_getElem_cons (by omega)
    have d2 : m.drop i = m[i]'(by omega) :: m.drop (i + 1) := List.drop_eq_getElem_cons (by omega)
    rw [e1, e2, w64 (by omega) (by omega), d1, d2]
    by_cases h : l[i]'(by omega) = m[i]'(by omega)
    · refine pos h ?_
      have := same_l0 l m hl hb d (i + 1) (by omega)
      rw [show decide (l[i]'(by omega) :: l.drop (i + 1) = m[i]'(by omega) :: m.drop (i + 1)) = decide (l.drop (i + 1) = m.drop (i + 1)) from decide_eq_decide.2 ⟨fun e => (List.cons.inj e).2, fun e => by rw [h, e]⟩]
      simpa using this
    · refine neg h ?_
      rw [decide_eq_false (fun e => h (List.cons.inj e).1)]
      exact Ev.now _
theorem same_ev (l m : List Int) (hb : l.length ≤ 1000000000) : Ev (fun k => figureheadref11_Same.f k l m) (decide (l = m)) := by
  simp only [figureheadref11_Same.f]
  by_cases h : l.length = m.length
  · refine pos (by omega) ?_
    have := same_l0 l m h hb l.length 0 (by omega)
    simpa using this
  · refine neg (by omega) ?_
    rw [decide_eq_false (fun e => h (by rw [e]))]
    exact Ev.now _
theorem same_true (l : List Int) (hb : l.length ≤ 1000000000) : Ev (fun k => figureheadref11_Same.f k l l) true := by
  have := same_ev l l hb
  simpa using this

theorem encAll_len (l : List Int) : (encAll l).length ≤ 4 * l.length := by
  induction l with
  | nil => simp [encAll]
  | cons x l ih =>
    rw [encAll_cons, List.length_append, List.length_cons]
    have := (enc_len x).2
    omega
theorem strOfNums_app (l m : List Int) : L (strOfNums (l ++ m)) = L (strOfNums l) ++ L (strOfNums m) := by simp [strOfNums]

end Go.Proofs.YtegcjanglneciaaDoor.Pure
