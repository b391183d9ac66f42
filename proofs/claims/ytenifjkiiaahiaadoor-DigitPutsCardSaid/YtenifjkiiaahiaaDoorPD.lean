/- Layer 12, the plain side: what Put, Run, Get and the reference's Zero, Put, Digits answer. -/
import Derived.Test.YtenifjkiiaahiaaDoorPU
import Derived.Test.YtenifjkiiaahiaaDoorFD
import Derived.Test.YtenifjkiiaahiaaDoorPrint7
import Derived.Test.YtenifjkiiaahiaaDoorPrint8
import Derived.Test.YtenifjkiiaahiaaDoorPrint9
namespace Go.Proofs.YtenifjkiiaahiaaDoor.Pure
open Go.RowKit Go.Lib Go.Proofs.YtenifjkiiaahiaaDoor.Print Go.Proofs.YtenifjkiiaahiaaDoor.U Go.Proofs.YtenifjkiiaahiaaDoor.Utf Go.Proofs.YtenifjkiiaahiaaDoorW.PrintWords
set_option linter.unusedVariables false
set_option linter.unusedSimpArgs false

theorem good_iff (z : Int) : goodZ z = true ↔ 0 ≤ z ∧ z ≤ 1114102 ∧ (z + 9 < 55296 ∨ 57343 < z) := by unfold goodZ; rw [decide_eq_true_iff]
theorem isZ_iff (z r : Int) (hg : goodZ z = true) : isZ z r = true ↔ z ≤ r ∧ r < z + 10 := by
  unfold isZ
  rw [hg, Bool.true_and, decide_eq_true_iff]
theorem isZ_valid (z r : Int) (h : isZ z r = true) : Lib.validRune r = true := by
  unfold isZ at h
  rw [Bool.and_eq_true] at h
  have h1 := (good_iff z).1 h.1
  have h2 := of_decide_eq_true h.2
  rw [ok_iff]; omega
/-- The first byte of a code point's encoding that is below 128: the code point. -/
theorem dec_low (b : UInt8) (t : List UInt8) (h : b.toNat < 128) : decodeL (b :: t) = (b.toNat, 1) := by
  rw [decodeL_N]
  unfold decodeN
  rw [if_pos (by simpa using h)]
  rfl
theorem dec_high (b : UInt8) (t : List UInt8) (h : 128 ≤ b.toNat) : 128 ≤ (decodeL (b :: t)).1 := by
  have k0 := b.toNat_lt
  rw [decodeL_N]
  rcases decodeN_shape (b :: t).length ((b :: t).getD 0 0).toNat ((b :: t).getD 1 0).toNat ((b :: t).getD 2 0).toNat ((b :: t).getD 3 0).toNat with ⟨c, e⟩ | ⟨c1, c2, c3, cv, e⟩ | ⟨c1, c2, c3, c4, cv, cs, e⟩ | ⟨c1, c2, c3, c4, c5, cv, cw, e⟩ | e
  · simp at c; omega
  · rw [e]; dsimp only; omega
  · rw [e]; dsimp only; omega
  · rw [e]; dsimp only; omega
  · rw [e]; dsimp only; omega

def digB (b : UInt8) : Bool := decide (48 ≤ b.toNat ∧ b.toNat ≤ 57)
/-- Digits 0 to 9 as a system's code points. -/
def toZ (z : Int) (l : List UInt8) : List Int := l.map fun b => z + (b.toNat : Int) - 48
theorem toZ_isZ (z : Int) (hg : goodZ z = true) (l : List UInt8) (h : l.all digB = true) : ∀ r ∈ toZ z l, isZ z r = true := by
  intro r hr
  obtain ⟨b, hb, rfl⟩ := List.mem_map.1 hr
  have := List.all_eq_true.1 h b hb
  unfold digB at this
  have := of_decide_eq_true this
  rw [isZ_iff z _ hg]
  omega
theorem toZ_all (z : Int) (hg : goodZ z = true) (l : List UInt8) (h : l.all digB = true) : All (toZ z l) := fun r hr => isZ_valid z r (toZ_isZ z hg l h r hr)
theorem putFrom_form (z : Int) (s : ByteArray) : ∀ (l : List UInt8) (f p : Nat), l.length ≤ f → (L s).drop p = l → putFrom z s f p = if l.all digB = true then some (encAll (toZ z l)) else none
  | [], f, p, hf, h => by
    have hp : ¬ p < s.size := fun hp => by
      have := congrArg List.length h
      rw [List.length_drop, L_len, List.length_nil] at this
      omega
    cases f with
    | zero => rfl
    | succ f =>
      unfold putFrom
      rw [if_neg hp]
      rfl
  | b :: t, f, p, hf, h => by
    have hp : p < s.size := by
      have := congrArg List.length h
      rw [List.length_drop, L_len, List.length_cons] at this
      omega
    obtain ⟨f, rfl⟩ : ∃ f', f = f' + 1 := ⟨f - 1, by simp at hf; omega⟩
    unfold putFrom
    rw [if_pos hp, dec_at, h]
    by_cases hb : b.toNat < 128
    · rw [dec_low b t hb]
      have ht : (L s).drop (p + 1) = t := by rw [← List.drop_drop, h]; rfl
      simp only
      by_cases hd : digB b = true
      · have := of_decide_eq_true hd
        rw [if_neg (by omega), putFrom_form z s t f (p + 1) (by simpa using hf) ht, List.all_cons, hd, Bool.true_and]
        by_cases ha : t.all digB = true
        · rw [if_pos ha, if_pos ha]
          simp [toZ, encAll_cons]
        · rw [if_neg ha, if_neg ha]; rfl
      · have hd2 : digB b = false := by simpa using hd
        have : ¬ (48 ≤ b.toNat ∧ b.toNat ≤ 57) := of_decide_eq_false hd2
        rw [if_pos (by omega), List.all_cons, hd2, Bool.false_and, if_neg (by simp)]
    · have h2 := dec_high b t (by omega)
      have hd2 : digB b = false := by unfold digB; exact decide_eq_false (by omega)
      rw [if_pos (by omega), List.all_cons, hd2, Bool.false_and, if_neg (by simp)]
theorem put_val (z : Int) (hg : goodZ z = true) (s : ByteArray) (hs : s.size < 35184372088000) : digit_Put.f z s = some (if (L s).all digB = true then ⟨(encAll (toZ z (L s))).toArray⟩ else ⟨#[]⟩) := by
  have hz := (good_iff z).1 hg
  unfold digit_Put.f
  rw [if_pos hs, if_pos ⟨hz.1, hz.2.1⟩, putFrom_form z s (L s) s.size 0 (by rw [L_len]; omega) rfl]
  by_cases h : (L s).all digB = true
  · rw [if_pos h, if_pos h]
  · rw [if_neg h, if_neg h]

theorem runFrom_form (z : Int) (s : ByteArray) : ∀ (rs : List Int) (rest : List UInt8) (f p : Nat), s.size ≤ p + f → p ≤ s.size → TextForm ((L s).drop p) rs rest →
    runFrom z s f p = (p : Int) + (encAll (rs.takeWhile (isZ z))).length
  | rs, rest, 0, p, hf, hps, ⟨ha, h, hr⟩ => by
    have h0 : (L s).drop p = [] := List.drop_eq_nil_of_le (by rw [L_len]; omega)
    rw [h0] at h
    cases rs with
    | nil =>
      show ((s.size : Nat) : Int) = _
      simp [encAll]; omega
    | cons r rs =>
      rw [encAll_cons, List.append_assoc] at h
      exact absurd (List.append_eq_nil_iff.1 h.symm).1 (enc_ne r)
  | rs, rest, f + 1, p, hf, hps, hform => by
    unfold runFrom
    by_cases hp : p < s.size
    · rw [if_pos hp, dec_at]
      obtain ⟨ha, h, hr⟩ := hform
      have hne : (L s).drop p ≠ [] := fun h => by
        have := congrArg List.length h
        rw [List.length_drop, L_len, List.length_nil] at this
        omega
      cases rs with
      | nil =>
        rw [encAll_nil, List.nil_append] at h
        rw [h] at hne ⊢
        rcases hr with hr | hr
        · exact absurd hr hne
        · unfold Bad at hr
          rw [hr, if_pos (.inr ⟨rfl, rfl⟩)]
          simp [encAll]
      | cons r rs =>
        have hr0 := ha r (by simp)
        have hok := (ok_iff r).1 hr0
        have hd : decodeL ((L s).drop p) = (r.toNat, (encodeRune r).length) := by rw [h, encAll_cons, List.append_assoc, dec_enc r hr0]
        have hnb : ¬ (r.toNat = 65533 ∧ (encodeRune r).length = 1) := fun hh => enc_not_bad r hr0 (encAll rs ++ rest) (by unfold Bad; rw [dec_enc r hr0]; exact Prod.ext hh.1 hh.2)
        rw [hd]
        simp only
        rw [show ((r.toNat : Nat) : Int) = r by omega]
        have hdr : (L s).drop (p + (encodeRune r).length) = encAll rs ++ rest := by rw [← List.drop_drop, h, encAll_cons, List.append_assoc, List.drop_left]
        have hle : p + (encodeRune r).length ≤ s.size := by
          have := congrArg List.length h
          rw [List.length_drop, L_len, encAll_cons, List.append_assoc, List.length_append] at this
          omega
        have h1 := (enc_len r).1
        cases hz : isZ z r with
        | false =>
          rw [if_pos (.inl rfl), List.takeWhile_cons, hz]
          simp [encAll]
        | true =>
          rw [if_neg (fun hh => hh.elim (fun e => by cases e) hnb), List.takeWhile_cons, hz]
          rw [runFrom_form z s rs rest f (p + (encodeRune r).length) (by omega) hle ⟨fun x hx => ha x (by simp [hx]), hdr, hr⟩]
          simp only [if_true]
          rw [encAll_cons, List.length_append]
          omega
    · rw [if_neg hp]
      have h0 : (L s).drop p = [] := List.drop_eq_nil_of_le (by rw [L_len]; omega)
      obtain ⟨ha, h, hr⟩ := hform
      rw [h0] at h
      cases rs with
      | nil => simp [encAll]; omega
      | cons r rs =>
        rw [encAll_cons, List.append_assoc] at h
        exact absurd (List.append_eq_nil_iff.1 h.symm).1 (enc_ne r)
theorem run_val (z : Int) (s : ByteArray) (hs : s.size < 9223372036854775807) (rs : List Int) (rest : List UInt8) (h : TextForm (L s) rs rest) :
    digit_Run.f z s = some ((encAll (rs.takeWhile (isZ z))).length : Int) := by
  unfold digit_Run.f
  rw [if_pos hs, runFrom_form z s rs rest s.size 0 (by omega) (by omega) (by simpa using h)]
  simp
def fromZ (z : Int) (rs : List Int) : List UInt8 := rs.map fun r => UInt8.ofNat ((48 + r - z) % 256).toNat
theorem getFrom_form (z : Int) (s : ByteArray) : ∀ (rs : List Int) (f p : Nat), s.size ≤ p + f → TextForm ((L s).drop p) rs [] → getFrom z s f p = fromZ z rs
  | rs, 0, p, hf, ⟨ha, h, hr⟩ => by
    have h0 : (L s).drop p = [] := List.drop_eq_nil_of_le (by rw [L_len]; omega)
    rw [h0, List.append_nil] at h
    cases rs with
    | nil => rfl
    | cons r rs =>
      rw [encAll_cons] at h
      exact absurd (List.append_eq_nil_iff.1 h.symm).1 (enc_ne r)
  | rs, f + 1, p, hf, ⟨ha, h, hr⟩ => by
    unfold getFrom
    rw [List.append_nil] at h
    by_cases hp : p < s.size
    · rw [if_pos hp, dec_at]
      cases rs with
      | nil =>
        have := congrArg List.length h
        rw [List.length_drop, L_len, encAll_nil, List.length_nil] at this
        omega
      | cons r rs =>
        have hr0 := ha r (by simp)
        have hok := (ok_iff r).1 hr0
        have hd : decodeL ((L s).drop p) = (r.toNat, (encodeRune r).length) := by rw [h, encAll_cons, dec_enc r hr0]
        have hdr : (L s).drop (p + (encodeRune r).length) = encAll rs := by rw [← List.drop_drop, h, encAll_cons, List.drop_left]
        have h1 := (enc_len r).1
        rw [hd, getFrom_form z s rs f (p + (encodeRune r).length) (by omega) ⟨fun x hx => ha x (by simp [hx]), by rw [hdr]; simp, .inl rfl⟩]
        simp only
        rw [show ((r.toNat : Nat) : Int) = r by omega]
        rfl
    · rw [if_neg hp]
      have h0 : (L s).drop p = [] := List.drop_eq_nil_of_le (by rw [L_len]; omega)
      rw [h0] at h
      cases rs with
      | nil => rfl
      | cons r rs =>
        rw [encAll_cons] at h
        exact absurd (List.append_eq_nil_iff.1 h.symm).1 (enc_ne r)
theorem takeWhile_all {α : Type} (p : α → Bool) (l : List α) (h : l.all p = true) : l.takeWhile p = l := by
  induction l with
  | nil => rfl
  | cons x l ih =>
    rw [List.all_cons, Bool.and_eq_true] at h
    rw [List.takeWhile_cons, h.1, if_pos rfl, ih h.2]
theorem encAll_prefix (z : Int) (rs : List Int) (h : ¬ rs.all (isZ z) = true) : (encAll (rs.takeWhile (isZ z))).length < (encAll rs).length := by
  induction rs with
  | nil => simp at h
  | cons r rs ih =>
    rw [List.takeWhile_cons]
    have h1 := (enc_len r).1
    cases hz : isZ z r with
    | false => simp only [Bool.false_eq_true, if_false]; rw [encAll_cons, List.length_append]; simp [encAll]; omega
    | true =>
      simp only [if_true]
      rw [List.all_cons, hz, Bool.true_and] at h
      have := ih h
      rw [encAll_cons, encAll_cons, List.length_append, List.length_append]
      omega
/-- What Get answers of a text in its form. -/
def getR (z : Int) (rs : List Int) (rest : List UInt8) : ByteArray × Bool := if rs ≠ [] ∧ rest = [] ∧ rs.all (isZ z) = true then (⟨(fromZ z rs).toArray⟩, true) else (⟨#[]⟩, false)
theorem getR_no (z : Int) (rs : List Int) (rest : List UInt8) (h : ¬ (rs ≠ [] ∧ rest = [] ∧ rs.all (isZ z) = true)) : getR z rs rest = (⟨#[]⟩, false) := by unfold getR; rw [if_neg h]
theorem getR_yes (z : Int) (rs : List Int) (rest : List UInt8) (h : rs ≠ [] ∧ rest = [] ∧ rs.all (isZ z) = true) : getR z rs rest = (⟨(fromZ z rs).toArray⟩, true) := by unfold getR; rw [if_pos h]
theorem get_val (z : Int) (hg : goodZ z = true) (s : ByteArray) (hs : s.size < 35184372088000) (rs : List Int) (rest : List UInt8) (h : TextForm (L s) rs rest) : digit_Get.f z s = some (getR z rs rest) := by
  have hz := (good_iff z).1 hg
  have hlen := congrArg List.length h.2.1
  rw [L_len, List.length_append] at hlen
  have hrun := runFrom_form z s rs rest s.size 0 (by omega) (by omega) (by simpa using h)
  unfold digit_Get.f
  rw [if_pos ⟨hs, by omega, by omega⟩, hrun]
  have e0 : ((0 : Nat) : Int) + ((encAll (rs.takeWhile (isZ z))).length : Int) = ((encAll (rs.takeWhile (isZ z))).length : Int) := by omega
  rw [e0]
  by_cases hne : rs = []
  · rw [getR_no z rs rest (fun hh => hh.1 hne)]
    subst hne
    by_cases h0 : s.size = 0
    · rw [if_pos (Or.inl h0)]
    · rw [if_pos (Or.inr (by simp [encAll]; omega))]
  · have hpos : 1 ≤ (encAll rs).length := by
      cases rs with
      | nil => exact absurd rfl hne
      | cons r rs =>
        rw [encAll_cons, List.length_append]
        have := (enc_len r).1
        omega
    by_cases hall : rs.all (isZ z) = true
    · rw [takeWhile_all _ _ hall]
      by_cases hrest : rest = []
      · rw [getR_yes z rs rest ⟨hne, hrest, hall⟩]
        subst hrest
        rw [List.length_nil] at hlen
        rw [if_neg (fun hh => Or.elim hh (fun e => by omega) (fun e => by omega)), getFrom_form z s rs s.size 0 (by omega) (by simpa using h)]
      · rw [getR_no z rs rest (fun hh => hrest hh.2.1)]
        have : 1 ≤ rest.length := List.length_pos_iff.2 hrest
        rw [if_pos (Or.inr (by omega))]
    · rw [getR_no z rs rest (fun hh => hall hh.2.2)]
      have := encAll_prefix z rs hall
      rw [if_pos (Or.inr (by omega))]
theorem fromZ_toZ (z : Int) (l : List UInt8) (h : l.all digB = true) : fromZ z (toZ z l) = l := by
  induction l with
  | nil => rfl
  | cons b l ih =>
    rw [List.all_cons, Bool.and_eq_true] at h
    have hb := of_decide_eq_true h.1
    show UInt8.ofNat ((48 + (z + (b.toNat : Int) - 48) - z) % 256).toNat :: fromZ z (toZ z l) = b :: l
    rw [ih h.2, show ((48 + (z + (b.toNat : Int) - 48) - z) % 256).toNat = b.toNat by omega]
    simp

/-! ### the reference's own -/
theorem zero_l0 (z : Int) (h0 : 0 ≤ z) (h1 : z ≤ 2147483647) : ∀ (d n : Nat) (b : Bool), n + d = 10 → (b = true ↔ (n < 10 → z ≤ 1114102 ∧ ∀ m : Nat, n ≤ m → m < 10 → Lib.validRune (z + m) = true)) → Ev (fun k => figureheadref11_Zero.l0 k z (n : Int)) b
  | 0, n, b, hd, hb => by
    refine succ ?_
    simp only [figureheadref11_Zero.l0]
    rw [hb.2 (fun h => by omega)]
    exact neg (by omega) (Ev.now _)
  | d + 1, n, b, hd, hb => by
    refine succ ?_
    simp only [figureheadref11_Zero.l0]
    refine pos (by omega) ?_
    have bf : (¬ b = true) → b = false := fun h => by simpa using h
    by_cases h2 : z > 1114102
    · rw [bf (fun h => by have := hb.1 h (by omega); omega)]
      exact pos h2 (Ev.now _)
    refine neg h2 ?_
    rw [w32' (x := z + (n : Int)) (by omega) (by omega), w32' (x := (n : Int) + 1) (by omega) (by omega), refScalar_val]
    simp only [Option.bind_some]
    by_cases hv : Lib.validRune (z + (n : Int)) = true
    · refine pos hv ?_
      have := zero_l0 z h0 h1 d (n + 1) b (by omega) ⟨fun h _ => ⟨by omega, fun m a c => (hb.1 h (by omega)).2 m (by omega) c⟩, fun h => hb.2 (fun _ => ⟨by omega, fun m a c => by
        by_cases e : n = m
        · rw [← e]; exact hv
        · exact (h (by omega)).2 m (by omega) c⟩)⟩
      simpa using this
    · refine neg hv ?_
      rw [bf (fun h => hv ((hb.1 h (by omega)).2 n (Nat.le_refl _) (by omega)))]
      exact Ev.now _
theorem zero_ev (z : Int) (h0 : 0 ≤ z) (h1 : z ≤ 2147483647) : Ev (fun k => figureheadref11_Zero.f k z) (goodZ z) := by
  simp only [figureheadref11_Zero.f]
  have := zero_l0 z h0 h1 10 0 (goodZ z) (by omega) (by
    rw [good_iff]
    constructor
    · intro h _
      exact ⟨h.2.1, fun m _ hm => by rw [ok_iff]; omega⟩
    · intro h
      have hh := h (by omega)
      have a := (ok_iff _).1 (hh.2 0 (by omega) (by omega))
      have b := (ok_iff _).1 (hh.2 9 (by omega) (by omega))
      by_cases c : 55296 ≤ z + 9 ∧ z ≤ 57343
      · by_cases e : z ≤ 55296
        · have d := (ok_iff _).1 (hh.2 (55296 - z).toNat (by omega) (by omega))
          omega
        · omega
      · omega)
  simpa using this
theorem digits_l0 (s : ByteArray) (hs : s.size ≤ 140737488351232) : ∀ (d i : Nat), i + d = s.size → Ev (fun k => figureheadref05_Digits.l0 k s (i : Int)) (((L s).drop i).all digB && decide (L s ≠ []))
  | 0, i, hd => by
    refine succ ?_
    simp only [figureheadref05_Digits.l0]
    rw [List.drop_of_length_le (by rw [L_len]; omega), toList_L]
    refine neg (by omega) ?_
    rw [show ((([] : List UInt8).all digB) && decide (L s ≠ [])) = (L s != ([] : List UInt8)) from by by_cases h : L s = [] <;> simp [h]]
    exact Ev.now _
  | d + 1, i, hd => by
    refine succ ?_
    simp only [figureheadref05_Digits.l0]
    have hi : i < (L s).length := by rw [L_len]; omega
    have e : (L s).drop i = (L s)[i] :: (L s).drop (i + 1) := List.drop_eq_getElem_cons hi
    have eb : bt s (i : Int) = ((L s)[i].toNat : Int) := by rw [bt_L, List.getD_eq_getElem?_getD, List.getElem?_eq_getElem hi]; rfl
    rw [eb, e, w64 (by omega) (by omega), List.all_cons]
    refine pos (by omega) (pos (by omega) ?_)
    by_cases h1 : ((L s)[i].toNat : Int) < 48
    · rw [show digB (L s)[i] = false from decide_eq_false (by omega)]
      exact pos h1 (Ev.now _)
    refine neg h1 ?_
    by_cases h2 : ((L s)[i].toNat : Int) > 57
    · rw [show digB (L s)[i] = false from decide_eq_false (by omega)]
      exact pos h2 (Ev.now _)
    refine neg h2 ?_
    rw [show digB (L s)[i] = true from decide_eq_true (by omega), Bool.true_and]
    have := digits_l0 s hs d (i + 1) (by omega)
    simpa using this
theorem digits_ev (s : ByteArray) (hs : s.size ≤ 140737488351232) : Ev (fun k => figureheadref05_Digits.f k s) ((L s).all digB && decide (L s ≠ [])) := by
  simp only [figureheadref05_Digits.f]
  have := digits_l0 s hs s.size 0 (by omega)
  simpa using this
theorem refPut_l0 (z : Int) (hg : goodZ z = true) (s : ByteArray) (hs : s.size ≤ 1000000) (hd : (L s).all digB = true) : ∀ (d i : Nat) (acc : List Int), i + d = s.size → acc = toZ z ((L s).take i) → Ev (fun k => figureheadref11_Put.l0 k z s acc (i : Int)) ⟨(encAll (toZ z (L s))).toArray⟩
  | 0, i, acc, hid, hacc => by
    refine succ ?_
    simp only [figureheadref11_Put.l0]
    rw [List.take_of_length_le (by rw [L_len]; omega)] at hacc
    subst hacc
    exact neg (by omega) (Ev.bind (refText_ev _ (toZ_all z hg _ hd) (by simp [toZ, L_len]; omega)) (Ev.now _))
  | d + 1, i, acc, hid, hacc => by
    refine succ ?_
    simp only [figureheadref11_Put.l0]
    have hi : i < (L s).length := by rw [L_len]; omega
    have eb : bt s (i : Int) = ((L s)[i].toNat : Int) := by rw [bt_L, List.getD_eq_getElem?_getD, List.getElem?_eq_getElem hi]; rfl
    have hb := of_decide_eq_true (List.all_eq_true.1 hd (L s)[i] (List.getElem_mem _))
    have hz := (good_iff z).1 hg
    have hal : acc.length ≤ i := by rw [hacc]; simp [toZ]; omega
    rw [eb, w64 (by omega) (by omega), w32' (by omega) (by omega)]
    refine pos (by omega) (pos (by omega) (pos (by omega) ?_))
    have := refPut_l0 z hg s hs hd d (i + 1) (acc ++ [z + (((L s)[i].toNat : Int) - 48) % 256]) (by omega) (by
      rw [hacc, List.take_succ_eq_append_getElem hi]
      unfold toZ
      rw [List.map_append, List.map_singleton]
      congr 2
      omega)
    simpa using this
theorem refPut_ev (z : Int) (hg : goodZ z = true) (s : ByteArray) (hs : s.size ≤ 1000000) (hd : (L s).all digB = true) : Ev (fun k => figureheadref11_Put.f k z s) ⟨(encAll (toZ z (L s))).toArray⟩ := by
  simp only [figureheadref11_Put.f]
  have := refPut_l0 z hg s hs hd s.size 0 [] (by omega) rfl
  simpa using this
theorem form_enc (rs : List Int) (h : All rs) : TextForm (encAll rs) rs [] := ⟨h, by simp, .inl rfl⟩
end Go.Proofs.YtenifjkiiaahiaaDoor.Pure
