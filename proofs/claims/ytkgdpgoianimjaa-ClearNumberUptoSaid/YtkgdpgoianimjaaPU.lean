/- Layer 11, the plain side: what Bad, Runes, Text and the reference's First, Bytes, Runes, Text, Same answer of a text in its one form. -/
import Derived.Test.YtkgdpgoianimjaaPrint1
import Derived.Test.YtkgdpgoianimjaaPrint3
import Derived.Test.YtkgdpgoianimjaaFU
import Derived.Test.YtkgdpgoianimjaaU
import Derived.Test.YtkgdpgoianimjaaPI
namespace Go.Proofs.Ytkgdpgoianimjaa.Pure
open Go.RowKit Go.Lib Go.Proofs.Ytkgdpgoianimjaa.Print Go.Proofs.Ytkgdpgoianimjaa.U Go.Proofs.Ytkgdpgoianimjaa.Utf Go.Proofs.YtkgdpgoianimjaaW.PrintWords
set_option linter.unusedVariables false
set_option linter.unusedSimpArgs false

/-! ### the program's own functions -/
theorem dec_at (s : ByteArray) (p : Nat) : Utf8.decode s p = decodeL ((L s).drop p) := (decodeL_drop s p).symm
theorem badFrom_form (s : ByteArray) : ∀ (f p : Nat) (rs : List Int) (rest : List UInt8), s.size ≤ p + f → TextForm ((L s).drop p) rs rest → badFrom s f p = if rest = [] then -1 else (p : Int) + (encAll rs).length
  | 0, p, rs, rest, hf, ⟨ha, h, hr⟩ => by
    have h0 : (L s).drop p = [] := List.drop_eq_nil_of_le (by rw [L_len]; omega)
    rw [h0] at h
    have := List.append_eq_nil_iff.1 h.symm
    rw [if_pos this.2]
    rfl
  | f + 1, p, rs, rest, hf, hform => by
    unfold badFrom
    by_cases hp : p < s.size
    · rw [if_pos hp, dec_at]
      have hne : (L s).drop p ≠ [] := fun h => by
        have := congrArg List.length h
        rw [List.length_drop, L_len, List.length_nil] at this
        omega
      obtain ⟨ha, h, hr⟩ := hform
      cases rs with
      | nil =>
        rw [encAll_nil, List.nil_append] at h
        rw [h] at hne ⊢
        rcases hr with hr | hr
        · exact absurd hr hne
        · unfold Bad at hr
          rw [hr, if_pos ⟨rfl, rfl⟩, if_neg hne, encAll_nil]
          simp
      | cons r rs =>
        have hr0 := ha r (by simp)
        have hd : decodeL ((L s).drop p) = (r.toNat, (encodeRune r).length) := by rw [h, encAll_cons, List.append_assoc, dec_enc r hr0]
        have hnb : ¬ (r.toNat = 65533 ∧ (encodeRune r).length = 1) := fun hh => enc_not_bad r hr0 (encAll rs ++ rest) (by unfold Bad; rw [dec_enc r hr0]; exact Prod.ext hh.1 hh.2)
        rw [hd, if_neg hnb]
        have hdr : (L s).drop (p + (encodeRune r).length) = encAll rs ++ rest := by rw [← List.drop_drop, h, encAll_cons, List.append_assoc, List.drop_left]
        have h1 := (enc_len r).1
        rw [badFrom_form s f (p + (encodeRune r).length) rs rest (by omega) ⟨fun x hx => ha x (by simp [hx]), hdr, hr⟩]
        by_cases hn : rest = []
        · rw [if_pos hn, if_pos hn]
        · rw [if_neg hn, if_neg hn, encAll_cons, List.length_append]
          omega
    · rw [if_neg hp]
      have h0 : (L s).drop p = [] := List.drop_eq_nil_of_le (by rw [L_len]; omega)
      obtain ⟨ha, h, hr⟩ := hform
      rw [h0] at h
      rw [if_pos (List.append_eq_nil_iff.1 h.symm).2]
theorem runesFrom_form (s : ByteArray) : ∀ (f p : Nat) (rs : List Int), s.size ≤ p + f → TextForm ((L s).drop p) rs [] → runesFrom s f p = rs
  | 0, p, rs, hf, ⟨ha, h, hr⟩ => by
    have h0 : (L s).drop p = [] := List.drop_eq_nil_of_le (by rw [L_len]; omega)
    rw [h0, List.append_nil] at h
    cases rs with
    | nil => rfl
    | cons r rs =>
      rw [encAll_cons] at h
      exact absurd (List.append_eq_nil_iff.1 h.symm).1 (enc_ne r)
  | f + 1, p, rs, hf, ⟨ha, h, hr⟩ => by
    unfold runesFrom
    rw [List.append_nil] at h
    by_cases hp : p < s.size
    · rw [if_pos hp, dec_at]
      cases rs with
      | nil =>
        have := congrArg List.length h
        rw [List.length_drop, L_len, encAll_nil, List.length_nil] at this
        omega
      | cons r rs =>
        have hr0 := ha r (by simp)
        have hok := (ok_iff r).1 hr0
        have hd : decodeL ((L s).drop p) = (r.toNat, (encodeRune r).length) := by rw [h, encAll_cons, dec_enc r hr0]
        have hdr : (L s).drop (p + (encodeRune r).length) = encAll rs := by rw [← List.drop_drop, h, encAll_cons, List.drop_left]
        have h1 := (enc_len r).1
        rw [hd, runesFrom_form s f (p + (encodeRune r).length) rs (by omega) ⟨fun x hx => ha x (by simp [hx]), by rw [hdr]; simp, .inl rfl⟩]
        congr 1
        omega
    · rw [if_neg hp]
      have h0 : (L s).drop p = [] := List.drop_eq_nil_of_le (by rw [L_len]; omega)
      rw [h0] at h
      cases rs with
      | nil => rfl
      | cons r rs =>
        rw [encAll_cons] at h
        exact absurd (List.append_eq_nil_iff.1 h.symm).1 (enc_ne r)
/-! ### scalars -/
theorem refScalar_val (r : Int) : figureheadref11_Scalar.f r = some (Lib.validRune r) := by
  unfold figureheadref11_Scalar.f Lib.validRune
  by_cases h0 : r ≥ 0
  · rw [if_pos h0]
    by_cases h1 : r ≤ 1114111
    · rw [if_pos h1]
      by_cases h2 : r < 55296
      · rw [if_pos h2, decide_eq_true (by omega)]
      · rw [if_neg h2]
        congr 1
        apply decide_eq_decide.2
        omega
    · rw [if_neg h1, decide_eq_false (by omega)]
  · rw [if_neg h0, decide_eq_false (by omega)]

/-! ### the reference's own functions -/
theorem refBytes_val (r : Int) (h : Lib.validRune r = true) : figureheadref11_Bytes.f r = some (encodeRuneZ r) := by
  have hr := (ok_iff r).1 h
  unfold figureheadref11_Bytes.f
  rw [w64 (x := r) (by omega) (by omega)]
  have t1 : Int.tdiv r 64 = r / 64 := Int.tdiv_eq_ediv_of_nonneg (by omega)
  have t2 : Int.tdiv r 4096 = r / 4096 := Int.tdiv_eq_ediv_of_nonneg (by omega)
  have t3 : Int.tdiv r 262144 = r / 262144 := Int.tdiv_eq_ediv_of_nonneg (by omega)
  have m1 : Int.tmod r 64 = r % 64 := Int.tmod_eq_emod_of_nonneg (by omega)
  rw [t1, t2, t3, m1, w64 (x := r / 64) (by omega) (by omega), w64 (x := r / 4096) (by omega) (by omega), w64 (x := r / 262144) (by omega) (by omega)]
  have m2 : Int.tmod (r / 64) 64 = r / 64 % 64 := Int.tmod_eq_emod_of_nonneg (by omega)
  have m3 : Int.tmod (r / 4096) 64 = r / 4096 % 64 := Int.tmod_eq_emod_of_nonneg (by omega)
  rw [m2, m3, w64 (x := 192 + r / 64) (by omega) (by omega), w64 (x := 224 + r / 4096) (by omega) (by omega), w64 (x := 240 + r / 262144) (by omega) (by omega), w64 (x := 128 + r % 64) (by omega) (by omega), w64 (x := 128 + r / 64 % 64) (by omega) (by omega), w64 (x := 128 + r / 4096 % 64) (by omega) (by omega)]
  by_cases h1 : r < 128
  · rw [if_pos h1, encodeRuneZ_one (by omega) (by omega), Int.emod_eq_of_lt (by omega) (by omega)]
  rw [if_neg h1]
  by_cases h2 : r < 2048
  · rw [if_pos h2, encodeRuneZ_two (by omega) (by omega), Int.emod_eq_of_lt (a := 192 + r / 64) (by omega) (by omega), Int.emod_eq_of_lt (a := 128 + r % 64) (by omega) (by omega)]
  rw [if_neg h2]
  by_cases h3 : r < 65536
  · rw [if_pos h3, encodeRuneZ_three (by omega), Int.emod_eq_of_lt (a := 224 + r / 4096) (by omega) (by omega), Int.emod_eq_of_lt (a := 128 + r % 64) (by omega) (by omega), Int.emod_eq_of_lt (a := 128 + r / 64 % 64) (by omega) (by omega)]
  · rw [if_neg h3, encodeRuneZ_four (by omega) (by omega), Int.emod_eq_of_lt (a := 240 + r / 262144) (by omega) (by omega), Int.emod_eq_of_lt (a := 128 + r % 64) (by omega) (by omega), Int.emod_eq_of_lt (a := 128 + r / 64 % 64) (by omega) (by omega), Int.emod_eq_of_lt (a := 128 + r / 4096 % 64) (by omega) (by omega)]
theorem str_enc (r : Int) : strOfNums (encodeRuneZ r) = ⟨(encodeRune r).toArray⟩ := by
  unfold strOfNums encodeRune
  rfl
theorem L_str_enc (r : Int) : L (strOfNums (encodeRuneZ r)) = encodeRune r := by rw [str_enc, L_mk]

/-! ### First: the code point that a text begins with -/
/-- What First answers. -/
def firstR (l : List UInt8) : Int × Int := if l = [] ∨ decodeL l = (65533, 1) then (0, 0) else (((decodeL l).1 : Int), ((decodeL l).2 : Int))
theorem bt_L (s : ByteArray) (i : Nat) : bt s (i : Int) = (((L s).getD i 0).toNat : Int) := by
  rw [← rd_bytesOf, rd_eq]
  unfold bytesOf
  rw [Int.toNat_natCast, List.getD_eq_getElem?_getD, List.getElem?_map, List.getD_eq_getElem?_getD]
  cases (L s)[i]? <;> rfl
theorem w32' {x : Int} (h0 : -2147483648 ≤ x) (h1 : x ≤ 2147483647) : wrap32 x = x := by unfold wrap32; omega
/-- The end of First: the number is a code point, and its bytes are those at hand. -/
def finR (l : List UInt8) (n kk : Int) : Int × Int := if Lib.validRune n = true ∧ encodeRune n = l.take kk.toNat then (n, kk) else (0, 0)
theorem first_fin (s : ByteArray) (n kk : Int) (h0 : 0 ≤ n) (h1 : n ≤ 2147483647) (hk : 1 ≤ kk) (hks : kk ≤ s.size) (i : Int) (hi : ¬ i < kk) :
    Ev (fun k => figureheadref11_First.l0 k s n kk i) (finR (L s) n kk) := by
  refine succ ?_
  simp only [figureheadref11_First.l0]
  rw [w32' (by omega) h1]
  refine neg hi (Ev.bind (Ev.congr (fun _ => refScalar_val n) (Ev.now _)) ?_)
  unfold finR
  by_cases hv : Lib.validRune n = true
  · refine pos hv (Ev.bind (Ev.congr (fun _ => refBytes_val n hv) (Ev.now _)) (pos (by omega) (pos hks ?_)))
    have e1 : (strOfNums (encodeRuneZ n)).toList = encodeRune n := by rw [toList_L, L_str_enc]
    have e2 : (s.extract 0 kk.toNat).toList = (L s).take kk.toNat := by rw [toList_L, L_ext, List.drop_zero, Nat.sub_zero]
    rw [e1, e2]
    by_cases he : encodeRune n = (L s).take kk.toNat
    · rw [if_pos (show Lib.validRune n = true ∧ encodeRune n = (L s).take kk.toNat from ⟨hv, he⟩)]; exact pos he (Ev.now _)
    · rw [if_neg (show ¬ (Lib.validRune n = true ∧ encodeRune n = (L s).take kk.toNat) from fun h => he h.2)]; exact neg he (Ev.now _)
  · rw [if_neg (show ¬ (Lib.validRune n = true ∧ encodeRune n = (L s).take kk.toNat) from fun h => hv h.1)]
    exact neg hv (Ev.now _)
/-- One byte more. -/
theorem first_step (s : ByteArray) (n kk : Int) (i : Nat) (R : Int × Int) (hi : (i : Int) < kk) (hks : kk ≤ s.size) (hs : s.size ≤ 1000000000000) (h0 : 0 ≤ n) (h1 : n ≤ 100000000)
    (hyes : 128 ≤ ((L s).getD i 0).toNat → ((L s).getD i 0).toNat ≤ 191 → Ev (fun k => figureheadref11_First.l0 k s (n * 64 + (((L s).getD i 0).toNat : Int) - 128) kk ((i + 1 : Nat) : Int)) R)
    (hno : ¬ (128 ≤ ((L s).getD i 0).toNat ∧ ((L s).getD i 0).toNat ≤ 191) → R = (0, 0)) :
    Ev (fun k => figureheadref11_First.l0 k s n kk (i : Int)) R := by
  refine succ ?_
  simp only [figureheadref11_First.l0]
  have k0 := ((L s).getD i 0).toNat_lt
  rw [bt_L, w64 (x := n * 64) (by omega) (by omega), w64 (x := (((L s).getD i 0).toNat : Int)) (by omega) (by omega), w64 (x := n * 64 + (((L s).getD i 0).toNat : Int)) (by omega) (by omega), w64 (x := n * 64 + (((L s).getD i 0).toNat : Int) - 128) (by omega) (by omega), w64 (x := (i : Int) + 1) (by omega) (by omega)]
  refine pos hi (pos (by omega) (pos (by omega) ?_))
  by_cases h2 : (((L s).getD i 0).toNat : Int) < 128
  · rw [hno (by omega)]; exact pos h2 (Ev.now _)
  refine neg h2 ?_
  by_cases h3 : (((L s).getD i 0).toNat : Int) > 191
  · rw [hno (by omega)]; exact pos h3 (Ev.now _)
  refine neg h3 ?_
  have := hyes (by omega) (by omega)
  simpa using this
/-- Of the lead byte's own number and length. -/
def restR (l : List UInt8) (n : Int) : Nat → Int × Int
  | 1 => finR l n 1
  | 2 => if l.length < 2 then (0, 0) else if 128 ≤ (l.getD 1 0).toNat ∧ (l.getD 1 0).toNat ≤ 191 then finR l (n * 64 + ((l.getD 1 0).toNat : Int) - 128) 2 else (0, 0)
  | 3 => if l.length < 3 then (0, 0) else if 128 ≤ (l.getD 1 0).toNat ∧ (l.getD 1 0).toNat ≤ 191 then (if 128 ≤ (l.getD 2 0).toNat ∧ (l.getD 2 0).toNat ≤ 191 then finR l ((n * 64 + ((l.getD 1 0).toNat : Int) - 128) * 64 + ((l.getD 2 0).toNat : Int) - 128) 3 else (0, 0)) else (0, 0)
  | _ => if l.length < 4 then (0, 0) else if 128 ≤ (l.getD 1 0).toNat ∧ (l.getD 1 0).toNat ≤ 191 then (if 128 ≤ (l.getD 2 0).toNat ∧ (l.getD 2 0).toNat ≤ 191 then (if 128 ≤ (l.getD 3 0).toNat ∧ (l.getD 3 0).toNat ≤ 191 then finR l (((n * 64 + ((l.getD 1 0).toNat : Int) - 128) * 64 + ((l.getD 2 0).toNat : Int) - 128) * 64 + ((l.getD 3 0).toNat : Int) - 128) 4 else (0, 0)) else (0, 0)) else (0, 0)
theorem first_j2 (s : ByteArray) (hs : s.size ≤ 1000000000000) (hs0 : 1 ≤ s.size) (n : Int) (h0 : 0 ≤ n) (h1 : n ≤ 200) (kk : Nat) (hk : kk = 1 ∨ kk = 2 ∨ kk = 3 ∨ kk = 4) :
    Ev (fun k => figureheadref11_First.j2 k s n (kk : Int)) (restR (L s) n kk) := by
  refine succ ?_
  simp only [figureheadref11_First.j2]
  have hl := L_len s
  have k1 := ((L s).getD 1 0).toNat_lt
  have k2 := ((L s).getD 2 0).toNat_lt
  have k3 := ((L s).getD 3 0).toNat_lt
  rcases hk with rfl | rfl | rfl | rfl
  · exact neg (by omega) (first_fin s n 1 h0 (by omega) (by omega) (by omega) 1 (by omega))
  · simp only [restR]
    by_cases hlen : (s.size : Int) < 2
    · rw [if_pos (show (L s).length < 2 by omega)]; exact pos (by omega) (Ev.now _)
    rw [if_neg (show ¬ (L s).length < 2 by omega)]
    refine neg (by omega) (first_step s n 2 1 _ (by omega) (by omega) hs h0 (by omega) (fun a b => ?_) (fun c => if_neg c))
    rw [if_pos ⟨a, b⟩]
    exact first_fin s _ 2 (by omega) (by omega) (by omega) (by omega) 2 (by omega)
  · simp only [restR]
    by_cases hlen : (s.size : Int) < 3
    · rw [if_pos (show (L s).length < 3 by omega)]; exact pos (by omega) (Ev.now _)
    rw [if_neg (show ¬ (L s).length < 3 by omega)]
    refine neg (by omega) (first_step s n 3 1 _ (by omega) (by omega) hs h0 (by omega) (fun a b => ?_) (fun c => if_neg c))
    rw [if_pos ⟨a, b⟩]
    refine first_step s _ 3 2 _ (by omega) (by omega) hs (by omega) (by omega) (fun a b => ?_) (fun c => if_neg c)
    rw [if_pos ⟨a, b⟩]
    exact first_fin s _ 3 (by omega) (by omega) (by omega) (by omega) 3 (by omega)
  · simp only [restR]
    by_cases hlen : (s.size : Int) < 4
    · rw [if_pos (show (L s).length < 4 by omega)]; exact pos (by omega) (Ev.now _)
    rw [if_neg (show ¬ (L s).length < 4 by omega)]
    refine neg (by omega) (first_step s n 4 1 _ (by omega) (by omega) hs h0 (by omega) (fun a b => ?_) (fun c => if_neg c))
    rw [if_pos ⟨a, b⟩]
    refine first_step s _ 4 2 _ (by omega) (by omega) hs (by omega) (by omega) (fun a b => ?_) (fun c => if_neg c)
    rw [if_pos ⟨a, b⟩]
    refine first_step s _ 4 3 _ (by omega) (by omega) hs (by omega) (by omega) (fun a b => ?_) (fun c => if_neg c)
    rw [if_pos ⟨a, b⟩]
    exact first_fin s _ 4 (by omega) (by omega) (by omega) (by omega) 4 (by omega)
/-- By the lead byte. -/
def leadR (l : List UInt8) : Int × Int :=
  let b : Int := ((l.getD 0 0).toNat : Int)
  if b < 128 then restR l b 1 else if 192 ≤ b ∧ b < 224 then restR l (b - 192) 2 else if 224 ≤ b ∧ b < 240 then restR l (b - 224) 3 else if 240 ≤ b ∧ b < 248 then restR l (b - 240) 4 else (0, 0)
theorem finR_ok (l : List UInt8) (n kk : Int) (hk : 1 ≤ kk) : finR l n kk = (0, 0) ∨ ((finR l n kk) = (n, kk) ∧ Lib.validRune n = true ∧ encodeRune n = l.take kk.toNat) := by
  unfold finR
  by_cases h : Lib.validRune n = true ∧ encodeRune n = l.take kk.toNat
  · right; rw [if_pos h]; exact ⟨rfl, h⟩
  · left; rw [if_neg h]
/-- Whatever First answers: nothing, or a code point whose bytes the text begins with. -/
theorem restR_ok (l : List UInt8) (n : Int) (kk : Nat) (hk : kk = 1 ∨ kk = 2 ∨ kk = 3 ∨ kk = 4) (hl : 1 ≤ l.length) : restR l n kk = (0, 0) ∨ ∃ r, restR l n kk = (r, (kk : Int)) ∧ Lib.validRune r = true ∧ encodeRune r = l.take kk ∧ kk ≤ l.length := by
  rcases hk with rfl | rfl | rfl | rfl
  · rcases finR_ok l n 1 (by omega) with h | ⟨h, a, b⟩
    · exact .inl h
    · exact .inr ⟨n, h, a, b, hl⟩
  · simp only [restR]
    split
    · exact .inl rfl
    split
    · rcases finR_ok l (n * 64 + ((l.getD 1 0).toNat : Int) - 128) 2 (by omega) with h | ⟨h, a, b⟩
      · exact .inl h
      · exact .inr ⟨_, h, a, b, by omega⟩
    · exact .inl rfl
  · simp only [restR]
    split
    · exact .inl rfl
    split
    · split
      · rcases finR_ok l ((n * 64 + ((l.getD 1 0).toNat : Int) - 128) * 64 + ((l.getD 2 0).toNat : Int) - 128) 3 (by omega) with h | ⟨h, a, b⟩
        · exact .inl h
        · exact .inr ⟨_, h, a, b, by omega⟩
      · exact .inl rfl
    · exact .inl rfl
  · simp only [restR]
    split
    · exact .inl rfl
    split
    · split
      · split
        · rcases finR_ok l (((n * 64 + ((l.getD 1 0).toNat : Int) - 128) * 64 + ((l.getD 2 0).toNat : Int) - 128) * 64 + ((l.getD 3 0).toNat : Int) - 128) 4 (by omega) with h | ⟨h, a, b⟩
          · exact .inl h
          · exact .inr ⟨_, h, a, b, by omega⟩
        · exact .inl rfl
      · exact .inl rfl
    · exact .inl rfl
theorem leadR_ok (l : List UInt8) (hl : 1 ≤ l.length) : leadR l = (0, 0) ∨ ∃ (r : Int) (kk : Nat), leadR l = (r, (kk : Int)) ∧ Lib.validRune r = true ∧ encodeRune r = l.take kk ∧ kk ≤ l.length := by
  unfold leadR
  dsimp only
  split
  · rcases restR_ok l _ 1 (.inl rfl) hl with h | ⟨r, h⟩
    · exact .inl h
    · exact .inr ⟨r, 1, h⟩
  split
  · rcases restR_ok l _ 2 (.inr (.inl rfl)) hl with h | ⟨r, h⟩
    · exact .inl h
    · exact .inr ⟨r, 2, h⟩
  split
  · rcases restR_ok l _ 3 (.inr (.inr (.inl rfl))) hl with h | ⟨r, h⟩
    · exact .inl h
    · exact .inr ⟨r, 3, h⟩
  split
  · rcases restR_ok l _ 4 (.inr (.inr (.inr rfl))) hl with h | ⟨r, h⟩
    · exact .inl h
    · exact .inr ⟨r, 4, h⟩
  · exact .inl rfl
set_option maxHeartbeats 1000000 in
theorem leadR_enc (r : Int) (h : Lib.validRune r = true) (t : List UInt8) : leadR (encodeRune r ++ t) = (r, ((encodeRune r).length : Int)) := by
  have hr := (ok_iff r).1 h
  have htake : ∀ m : Nat, m = (encodeRune r).length → encodeRune r = (encodeRune r ++ t).take m := fun m e => by rw [e, List.take_left]
  unfold leadR
  by_cases h1 : r ≤ 127
  · have e : encodeRune r = [r.toNat.toUInt8] := by unfold encodeRune; rw [encodeRuneZ_one (by omega) h1]; rfl
    have b0 := byte_nat r (by omega) (by omega)
    have ht := htake 1 (by rw [e]; rfl)
    rw [e] at ht ⊢
    simp only [List.cons_append, List.nil_append, List.getD_cons_zero, List.getD_cons_succ, List.length_cons, List.length_nil] at ht ⊢
    rw [b0, if_pos (by omega)]
    simp only [restR, finR]
    rw [show ((r.toNat : Nat) : Int) = r by omega, if_pos ⟨h, by rw [e]; exact ht⟩]
    rfl
  by_cases h2 : r ≤ 2047
  · have e : encodeRune r = [(192 + r / 64).toNat.toUInt8, (128 + r % 64).toNat.toUInt8] := by unfold encodeRune; rw [encodeRuneZ_two (by omega) h2]; rfl
    have b0 := byte_nat (192 + r / 64) (by omega) (by omega)
    have b1 := byte_nat (128 + r % 64) (by omega) (by omega)
    have ht := htake 2 (by rw [e]; rfl)
    rw [e] at ht ⊢
    simp only [List.cons_append, List.nil_append, List.getD_cons_zero, List.getD_cons_succ, List.length_cons, List.length_nil] at ht ⊢
    rw [b0, if_neg (by omega), if_pos (by omega)]
    simp only [restR, finR]
    simp only [List.getD_cons_zero, List.getD_cons_succ, List.length_cons]
    rw [b1, if_neg (by omega), if_pos (by omega), show (((192 + r / 64).toNat : Int) - 192) * 64 + ((128 + r % 64).toNat : Int) - 128 = r by omega, if_pos ⟨h, by rw [e]; exact ht⟩]
    rfl
  by_cases h3 : r ≤ 65535
  · have e : encodeRune r = [(224 + r / 4096).toNat.toUInt8, (128 + r / 64 % 64).toNat.toUInt8, (128 + r % 64).toNat.toUInt8] := by unfold encodeRune; rw [encodeRuneZ_three (by omega)]; rfl
    have b0 := byte_nat (224 + r / 4096) (by omega) (by omega)
    have b1 := byte_nat (128 + r / 64 % 64) (by omega) (by omega)
    have b2 := byte_nat (128 + r % 64) (by omega) (by omega)
    have ht := htake 3 (by rw [e]; rfl)
    rw [e] at ht ⊢
    simp only [List.cons_append, List.nil_append, List.getD_cons_zero, List.getD_cons_succ, List.length_cons, List.length_nil] at ht ⊢
    rw [b0, if_neg (by omega), if_neg (by omega), if_pos (by omega)]
    simp only [restR, finR]
    simp only [List.getD_cons_zero, List.getD_cons_succ, List.length_cons]
    rw [b1, b2, if_neg (by omega), if_pos (by omega), if_pos (by omega), show ((((224 + r / 4096).toNat : Int) - 224) * 64 + ((128 + r / 64 % 64).toNat : Int) - 128) * 64 + ((128 + r % 64).toNat : Int) - 128 = r by omega, if_pos ⟨h, by rw [e]; exact ht⟩]
    rfl
  · have e : encodeRune r = [(240 + r / 262144).toNat.toUInt8, (128 + r / 4096 % 64).toNat.toUInt8, (128 + r / 64 % 64).toNat.toUInt8, (128 + r % 64).toNat.toUInt8] := by unfold encodeRune; rw [encodeRuneZ_four (by omega) (by omega)]; rfl
    have b0 := byte_nat (240 + r / 262144) (by omega) (by omega)
    have b1 := byte_nat (128 + r / 4096 % 64) (by omega) (by omega)
    have b2 := byte_nat (128 + r / 64 % 64) (by omega) (by omega)
    have b3 := byte_nat (128 + r % 64) (by omega) (by omega)
    have ht := htake 4 (by rw [e]; rfl)
    rw [e] at ht ⊢
    simp only [List.cons_append, List.nil_append, List.getD_cons_zero, List.getD_cons_succ, List.length_cons, List.length_nil] at ht ⊢
    rw [b0, if_neg (by omega), if_neg (by omega), if_neg (by omega), if_pos (by omega)]
    simp only [restR, finR]
    simp only [List.getD_cons_zero, List.getD_cons_succ, List.length_cons]
    rw [b1, b2, b3, if_neg (by omega), if_pos (by omega), if_pos (by omega), if_pos (by omega), show (((((240 + r / 262144).toNat : Int) - 240) * 64 + ((128 + r / 4096 % 64).toNat : Int) - 128) * 64 + ((128 + r / 64 % 64).toNat : Int) - 128) * 64 + ((128 + r % 64).toNat : Int) - 128 = r by omega, if_pos ⟨h, by rw [e]; exact ht⟩]
    rfl
theorem leadR_eq (l : List UInt8) (hl : l ≠ []) : leadR l = firstR l := by
  unfold firstR
  rcases dec_cases l hl with hb | ⟨r, hr, hd, he⟩
  · rw [if_pos (.inr hb)]
    rcases leadR_ok l (List.length_pos_iff.2 hl) with h | ⟨r, kk, h, hv, ht, hk⟩
    · exact h
    · exfalso
      have : l = encodeRune r ++ l.drop kk := by rw [ht, List.take_append_drop]
      rw [this] at hb
      exact enc_not_bad r hv _ hb
  · have hok := (ok_iff r).1 hr
    rw [if_neg (fun h => h.elim hl (fun h => enc_not_bad r hr (l.drop (encodeRune r).length) (by unfold Bad; rw [← he]; exact h)))]
    rw [hd]
    conv => lhs; rw [he]
    rw [leadR_enc r hr]
    apply Prod.ext <;> simp only <;> omega
theorem first_ev (s : ByteArray) (hs : s.size ≤ 1000000000000) : Ev (fun k => figureheadref11_First.f k s) (firstR (L s)) := by
  simp only [figureheadref11_First.f]
  by_cases he : L s = []
  · rw [show firstR (L s) = (0, 0) from if_pos (.inl he)]
    exact pos (by rw [toList_L, he]) (Ev.now _)
  rw [← leadR_eq _ he]
  have h1s : 1 ≤ s.size := by rw [← L_len]; exact List.length_pos_iff.2 he
  have k0 := ((L s).getD 0 0).toNat_lt
  refine neg (by rw [toList_L]; exact he) (pos (by omega) ?_)
  rw [show bt s 0 = (((L s).getD 0 0).toNat : Int) from bt_L s 0, w64 (x := (((L s).getD 0 0).toNat : Int)) (by omega) (by omega)]
  unfold leadR
  dsimp only
  have j2 := first_j2 s hs h1s
  by_cases c1 : (((L s).getD 0 0).toNat : Int) < 128
  · rw [if_pos c1]; exact pos c1 (j2 _ (by omega) (by omega) 1 (.inl rfl))
  rw [if_neg c1]
  refine neg c1 ?_
  by_cases c2 : (((L s).getD 0 0).toNat : Int) ≥ 192
  · refine pos c2 ?_
    refine succ ?_
    simp only [figureheadref11_First.j0]
    rw [w64 (x := (((L s).getD 0 0).toNat : Int) - 192) (by omega) (by omega)]
    by_cases c3 : (((L s).getD 0 0).toNat : Int) < 224
    · rw [if_pos ⟨c2, c3⟩]
      exact pos (decide_eq_true c3) (j2 _ (by omega) (by omega) 2 (.inr (.inl rfl)))
    · rw [if_neg (fun h => c3 h.2)]
      refine neg (by simpa using c3) (pos (by omega) ?_)
      refine succ ?_
      simp only [figureheadref11_First.j1]
      rw [w64 (x := (((L s).getD 0 0).toNat : Int) - 224) (by omega) (by omega)]
      by_cases c4 : (((L s).getD 0 0).toNat : Int) < 240
      · rw [if_pos ⟨by omega, c4⟩]
        exact pos (decide_eq_true c4) (j2 _ (by omega) (by omega) 3 (.inr (.inr (.inl rfl))))
      · rw [if_neg (fun h => c4 h.2)]
        refine neg (by simpa using c4) (pos (by omega) ?_)
        rw [w64 (x := (((L s).getD 0 0).toNat : Int) - 240) (by omega) (by omega)]
        by_cases c5 : (((L s).getD 0 0).toNat : Int) < 248
        · rw [if_pos ⟨by omega, c5⟩]
          exact pos c5 (j2 _ (by omega) (by omega) 4 (.inr (.inr (.inr rfl))))
        · rw [if_neg (fun h => c5 h.2)]
          exact neg c5 (Ev.now _)
  · rw [if_neg (fun h => c2 h.1), if_neg (fun h => by omega), if_neg (fun h => by omega)]
    refine neg c2 ?_
    refine succ ?_
    simp only [figureheadref11_First.j0]
    refine neg (by simp) (neg (by omega) ?_)
    refine succ ?_
    simp only [figureheadref11_First.j1]
    exact neg (by simp) (neg (by omega) (Ev.now _))

/-! ### the reference's Runes -/
/-- What the reference's Runes answers of a text in its form. -/
def refRunesR (rs : List Int) (rest : List UInt8) : List Int × Int := if rest = [] then (rs, -1) else ([], ((encAll rs).length : Int))
theorem refRunes_l0 (s : ByteArray) (hs : s.size ≤ 1000000000000) (all : List Int) (rest : List UInt8) : ∀ (rs acc : List Int) (p : Nat), TextForm ((L s).drop p) rs rest → acc ++ rs = all → (encAll acc).length = p → acc.length ≤ p → p ≤ s.size →
    Ev (fun k => figureheadref11_Runes.l0 k s acc (p : Int)) (refRunesR all rest)
  | [], acc, p, ⟨ha, h, hr⟩, hacc, hp, hal, hps => by
    refine succ ?_
    simp only [figureheadref11_Runes.l0]
    rw [encAll_nil, List.nil_append] at h
    rw [List.append_nil] at hacc
    subst hacc
    unfold refRunesR
    by_cases hlt : p < s.size
    · have hne : rest ≠ [] := fun e => by
        have := congrArg List.length h
        rw [List.length_drop, L_len, e, List.length_nil] at this
        omega
      rw [if_neg hne]
      rcases hr with hr | hr
      · exact absurd hr hne
      have hex : L (s.extract p s.size) = rest := by rw [L_ext, h, List.take_of_length_le (by have := congrArg List.length h; rw [List.length_drop, L_len] at this; omega)]
      have hf := first_ev (s.extract p s.size) (by rw [size_ext]; omega)
      rw [hex, show firstR rest = (0, 0) from if_pos (.inr hr)] at hf
      refine pos (by omega) (pos (by omega) (pos (by omega) (Ev.bind hf (pos rfl ?_))))
      rw [hp]
      exact Ev.now _
    · have hre : rest = [] := by
        rw [← h]
        exact List.drop_eq_nil_of_le (by rw [L_len]; omega)
      rw [if_pos hre]
      exact neg (by omega) (Ev.now _)
  | r :: rs, acc, p, ⟨ha, h, hr⟩, hacc, hp, hal, hps => by
    refine succ ?_
    simp only [figureheadref11_Runes.l0]
    have hr0 := ha r (by simp)
    have hok := (ok_iff r).1 hr0
    have h1 := enc_len r
    have hcat : (L s).drop p = encodeRune r ++ (encAll rs ++ rest) := by rw [h, encAll_cons, List.append_assoc]
    have hlt : p + (encodeRune r).length ≤ s.size := by
      have := congrArg List.length hcat
      rw [List.length_drop, L_len, List.length_append] at this
      omega
    have hex : L (s.extract p s.size) = (L s).drop p := by rw [L_ext, List.take_of_length_le (by rw [List.length_drop, L_len]; omega)]
    have hf := first_ev (s.extract p s.size) (by rw [size_ext]; omega)
    have hd : decodeL ((L s).drop p) = (r.toNat, (encodeRune r).length) := by rw [hcat, dec_enc r hr0]
    have hnb : ¬ ((L s).drop p = [] ∨ decodeL ((L s).drop p) = (65533, 1)) := by
      rw [hcat]
      exact fun hh => hh.elim (fun e => enc_ne r (List.append_eq_nil_iff.1 e).1) (fun e => enc_not_bad r hr0 _ e)
    rw [hex, show firstR ((L s).drop p) = ((r.toNat : Int), ((encodeRune r).length : Int)) from by unfold firstR; rw [if_neg hnb, hd], show (r.toNat : Int) = r by omega] at hf
    refine pos (by omega) (pos (by omega) (pos (by omega) (Ev.bind hf (neg (by simp only; omega) (pos (by omega) ?_)))))
    rw [w64 (by simp only; omega) (by simp only; omega)]
    have := refRunes_l0 s hs all rest rs (acc ++ [r]) (p + (encodeRune r).length) ⟨fun x hx => ha x (by simp [hx]), by rw [← List.drop_drop, hcat, List.drop_left], hr⟩ (by rw [← hacc]; simp) (by rw [encAll_snoc, List.length_append, hp]) (by simp; omega) hlt
    simpa using this
theorem refRunes_ev (s : ByteArray) (hs : s.size ≤ 1000000000000) (rs : List Int) (rest : List UInt8) (h : TextForm (L s) rs rest) : Ev (fun k => figureheadref11_Runes.f k s) (refRunesR rs rest) := by
  simp only [figureheadref11_Runes.f]
  have := refRunes_l0 s hs rs rest rs [] 0 (by simpa using h) rfl rfl (by simp) (by omega)
  simpa using this
end Go.Proofs.Ytkgdpgoianimjaa.Pure
