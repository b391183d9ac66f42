/- What a text is as tokens: the reference's Scan. (Out of the texts of layer 13.) -/
import Derived.Test.YtkgdpgoianimjaaPU
import Derived.Test.YtkgdpgoianimjaaP18
import Derived.Test.YtkgdpgoianimjaaPrint3
namespace Go.Proofs.Ytkgdpgoianimjaa.Pure
open Go.RowKit Go.Lib Go.Proofs.Ytkgdpgoianimjaa.Print Go.Proofs.Ytkgdpgoianimjaa.U Go.Proofs.Ytkgdpgoianimjaa.Utf Go.Proofs.YtkgdpgoianimjaaW.PrintWords
set_option linter.unusedVariables false
set_option linter.unusedSimpArgs false

def lenE (r : Int) : Int := ((Lib.encodeRune r).length : Int)
/-- Code points, scanned from a place on: the tokens, and where quotes stand open behind them. -/
inductive Sc : List Int → Int → Int → List S48 → Int → Prop where
  | nil (a op : Int) : Sc [] a op [] op
  | pair {m : List Int} {a op o : Int} {out : List S48} (h : Sc m (a + 2) op out o) : Sc (39 :: 39 :: m) a op (⟨39, true, a⟩ :: out) o
  | quote {m : List Int} {a op o : Int} {out : List S48} (hm : m.head? ≠ some 39) (h : Sc m (a + 1) (if op < 0 then a else -1) out o) : Sc (39 :: m) a op out o
  | other {r : Int} {m : List Int} {a op o : Int} {out : List S48} (hr : r ≠ 39) (h : Sc m (a + lenE r) op out o) : Sc (r :: m) a op (⟨r, !decide (op < 0), a⟩ :: out) o
theorem sc_ex : ∀ (n : Nat) (m : List Int) (a op : Int), m.length ≤ n → ∃ out o, Sc m a op out o
  | _, [], a, op, _ => ⟨[], op, .nil a op⟩
  | 0, r :: m, a, op, h => by simp at h
  | n + 1, r :: m, a, op, h => by
    have hl : m.length ≤ n := by simpa using h
    by_cases hr : r = 39
    · subst hr
      match m, hl with
      | [], _ => exact ⟨[], _, .quote (by simp) (.nil _ _)⟩
      | r2 :: m2, hl =>
        by_cases h2 : r2 = 39
        · subst h2
          obtain ⟨out, o, hs⟩ := sc_ex n m2 (a + 2) op (by simp at hl; omega)
          exact ⟨_, o, .pair hs⟩
        · obtain ⟨out, o, hs⟩ := sc_ex n (r2 :: m2) (a + 1) (if op < 0 then a else -1) hl
          exact ⟨out, o, .quote (by simpa using h2) hs⟩
    · obtain ⟨out, o, hs⟩ := sc_ex n m (a + lenE r) op hl
      exact ⟨_, o, .other hr hs⟩
/-- What is made of what was scanned. -/
def fin13 (out : List S48) (o : Int) : List S48 × Int × Int := if o ≥ 0 then ([], 3, o) else if out.length > 400 then ([], 8, 0) else (out, 0, 0)
theorem enc39 : encodeRune 39 = [39] := by decide +kernel
theorem head_enc (r : Int) (h : validRune r = true) (t : List UInt8) : ((encodeRune r ++ t).getD 0 0).toNat = 39 ↔ r = 39 := by
  have hr := (ok_iff r).1 h
  by_cases h1 : r ≤ 127
  · have e : encodeRune r = [r.toNat.toUInt8] := by unfold encodeRune; rw [encodeRuneZ_one (by omega) h1]; rfl
    have b0 := byte_nat r (by omega) (by omega)
    rw [e, List.cons_append, List.getD_cons_zero, b0]
    omega
  by_cases h2 : r ≤ 2047
  · have e : encodeRune r = [(192 + r / 64).toNat.toUInt8, (128 + r % 64).toNat.toUInt8] := by unfold encodeRune; rw [encodeRuneZ_two (by omega) h2]; rfl
    have b0 := byte_nat (192 + r / 64) (by omega) (by omega)
    rw [e, List.cons_append, List.getD_cons_zero, b0]
    omega
  by_cases h3 : r ≤ 65535
  · have e : encodeRune r = [(224 + r / 4096).toNat.toUInt8, (128 + r / 64 % 64).toNat.toUInt8, (128 + r % 64).toNat.toUInt8] := by unfold encodeRune; rw [encodeRuneZ_three (by omega)]; rfl
    have b0 := byte_nat (224 + r / 4096) (by omega) (by omega)
    rw [e, List.cons_append, List.getD_cons_zero, b0]
    omega
  · have e : encodeRune r = [(240 + r / 262144).toNat.toUInt8, (128 + r / 4096 % 64).toNat.toUInt8, (128 + r / 64 % 64).toNat.toUInt8, (128 + r % 64).toNat.toUInt8] := by unfold encodeRune; rw [encodeRuneZ_four (by omega) (by omega)]; rfl
    have b0 := byte_nat (240 + r / 262144) (by omega) (by omega)
    rw [e, List.cons_append, List.getD_cons_zero, b0]
    omega
theorem first_at (s : ByteArray) (hs : s.size ≤ 1000000000000) (p : Nat) (r : Int) (m : List Int) (hr0 : validRune r = true) (h : (L s).drop p = encAll (r :: m)) : Ev (fun k => figureheadref11_First.f k (s.extract p s.size)) (r, lenE r) := by
  have hok := (ok_iff r).1 hr0
  have hcat : (L s).drop p = encodeRune r ++ encAll m := by rw [h, encAll_cons]
  have hex : L (s.extract p s.size) = (L s).drop p := by rw [L_ext, List.take_of_length_le (by rw [List.length_drop, L_len]; omega)]
  have hf := first_ev (s.extract p s.size) (by rw [size_ext]; omega)
  have hd : decodeL ((L s).drop p) = (r.toNat, (encodeRune r).length) := by rw [hcat, dec_enc r hr0]
  have hnb : ¬ ((L s).drop p = [] ∨ decodeL ((L s).drop p) = (65533, 1)) := by
    rw [hcat]
    exact fun hh => hh.elim (fun e => enc_ne r (List.append_eq_nil_iff.1 e).1) (fun e => enc_not_bad r hr0 _ e)
  rw [hex, show firstR ((L s).drop p) = ((r.toNat : Int), ((encodeRune r).length : Int)) from by unfold firstR; rw [if_neg hnb, hd], show (r.toNat : Int) = r by omega] at hf
  exact hf
theorem drop_len {s : ByteArray} {p : Nat} {r : Int} {m : List Int} (h : (L s).drop p = encAll (r :: m)) : p + (encodeRune r).length ≤ s.size ∧ (L s).drop (p + (encodeRune r).length) = encAll m := by
  have hcat : (L s).drop p = encodeRune r ++ encAll m := by rw [h, encAll_cons]
  have h1 := enc_len r
  have := congrArg List.length hcat
  rw [List.length_drop, L_len, List.length_append] at this
  exact ⟨by omega, by rw [← List.drop_drop, hcat, List.drop_left]⟩
theorem refScan_l0 (s : ByteArray) (hs : s.size ≤ 1000000000) {m : List Int} {a op o : Int} {out : List S48} (h : Sc m a op out o) : ∀ (acc : List S48) (p : Nat), a = (p : Int) → (L s).drop p = encAll m → All m → acc.length ≤ p →
    Ev (fun k => figureheadref13_Scan.l0 k s acc op a) (fin13 (acc ++ out) o) := by
  induction h with
  | nil a op =>
    intro acc p hp hd ha hal
    refine succ ?_
    simp only [figureheadref13_Scan.l0]
    have hps : ¬ p < s.size := fun hlt => by
      have := congrArg List.length hd
      rw [List.length_drop, L_len, encAll_nil, List.length_nil] at this
      omega
    refine neg (by omega) ?_
    rw [List.append_nil]
    by_cases ho : op ≥ 0
    · have e : fin13 acc op = ([], 3, op) := by unfold fin13; rw [if_pos ho]
      rw [e]; exact pos ho (Ev.now _)
    · refine neg ho ?_
      by_cases h4 : acc.length > 400
      · have e : fin13 acc op = ([], 8, 0) := by unfold fin13; rw [if_neg ho, if_pos h4]
        rw [e]; exact pos (by omega) (Ev.now _)
      · have e : fin13 acc op = (acc, 0, 0) := by unfold fin13; rw [if_neg ho, if_neg h4]
        rw [e]; exact neg (by omega) (Ev.now _)
  | @pair m a op o out h ih =>
    intro acc p hp hd ha hal
    subst hp
    have hdl := drop_len hd
    rw [enc39] at hdl
    have hdl2 := drop_len hdl.2
    rw [enc39] at hdl2
    simp only [List.length_cons, List.length_nil] at hdl hdl2
    refine succ ?_
    simp only [figureheadref13_Scan.l0]
    have hb : bt s (((p + 1 : Nat)) : Int) = 39 := by
      rw [bt_L]
      have e : (L s).getD (p + 1) 0 = ((L s).drop (p + 1)).getD 0 0 := by simp [List.getD_eq_getElem?_getD]
      have h2 : (L s).drop (p + 1) = encodeRune 39 ++ encAll m := by rw [hdl.2, encAll_cons]
      have := (head_enc 39 (ha 39 (by simp)) (encAll m)).2 rfl
      rw [e, h2, this]
      rfl
    have hw : wrap64 ((p : Int) + 1) = ((p + 1 : Nat) : Int) := by rw [w64 (by omega) (by omega)]; omega
    rw [hw, hb]
    refine pos (by omega) (pos (by omega) (pos (by omega) (Ev.bind (first_at s (by omega) p 39 (39 :: m) (ha 39 (by simp)) hd) (pos rfl (pos (by omega) (pos (by omega) ?_))))))
    refine succ ?_
    simp only [figureheadref13_Scan.j1]
    refine pos (by decide) (pos (by omega) ?_)
    rw [w64 (by omega) (by omega)]
    have := ih (acc ++ [⟨39, true, (p : Int)⟩]) (p + 2) (by omega) (by rw [show p + 2 = p + 1 + 1 from rfl]; exact hdl2.2) (fun x hx => ha x (by simp [hx])) (by simp; omega)
    simpa using this
  | @quote m a op o out hm h ih =>
    intro acc p hp hd ha hal
    subst hp
    have hdl := drop_len hd
    rw [enc39] at hdl
    simp only [List.length_cons, List.length_nil] at hdl
    have hl39 : lenE 39 = 1 := by unfold lenE; rw [enc39]; rfl
    have hw : wrap64 ((p : Int) + 1) = ((p + 1 : Nat) : Int) := by rw [w64 (by omega) (by omega)]; omega
    have hj : Ev (fun k => figureheadref13_Scan.j1 k s acc op (p : Int) 39 1 false) (fin13 (acc ++ out) o) := by
      refine succ ?_
      simp only [figureheadref13_Scan.j1]
      refine neg (by simp) (pos trivial ?_)
      rw [hw]
      by_cases ho : op ≥ 0
      · rw [if_neg (by omega)] at ih
        refine pos ho ?_
        have := ih acc (p + 1) (by omega) (by simpa using hdl.2) (fun x hx => ha x (by simp [hx])) (by omega)
        simpa using this
      · rw [if_pos (by omega)] at ih
        refine neg ho ?_
        have := ih acc (p + 1) (by omega) (by simpa using hdl.2) (fun x hx => ha x (by simp [hx])) (by omega)
        simpa using this
    refine succ ?_
    simp only [figureheadref13_Scan.l0]
    rw [hw]
    have hf := first_at s (by omega) p 39 m (ha 39 (by simp)) hd
    rw [hl39] at hf
    refine pos (by omega) (pos (by omega) (pos (by omega) (Ev.bind hf (pos rfl ?_))))
    cases m with
    | nil =>
      have hps : ¬ p + 1 < s.size := fun hlt => by
        have := congrArg List.length hdl.2
        rw [List.length_drop, L_len, encAll_nil, List.length_nil] at this
        omega
      exact neg (by omega) hj
    | cons r2 m2 =>
      have h2 : r2 ≠ 39 := by simpa using hm
      have hdl2 := drop_len (s := s) (p := p + 1) (r := r2) (m := m2) (by simpa using hdl.2)
      have h1 := enc_len r2
      have hb : (bt s (((p + 1 : Nat)) : Int) == 39) = false := by
        rw [bt_L]
        have e : (L s).getD (p + 1) 0 = ((L s).drop (p + 1)).getD 0 0 := by simp [List.getD_eq_getElem?_getD]
        have h3 : (L s).drop (p + 1) = encodeRune r2 ++ encAll m2 := by rw [show (L s).drop (p + 1) = encAll (r2 :: m2) by simpa using hdl.2, encAll_cons]
        have := mt (head_enc r2 (ha r2 (by simp)) (encAll m2)).1 h2
        rw [e, h3]
        exact beq_eq_false_iff_ne.2 (by omega)
      rw [hb]
      exact pos (by omega) (pos (by omega) hj)
  | @other r m a op o out hr h ih =>
    intro acc p hp hd ha hal
    subst hp
    have hdl := drop_len hd
    have h1 := enc_len r
    have hle : lenE r = ((encodeRune r).length : Int) := rfl
    refine succ ?_
    simp only [figureheadref13_Scan.l0]
    refine pos (by omega) (pos (by omega) (pos (by omega) (Ev.bind (first_at s (by omega) p r m (ha r (by simp)) hd) (neg hr ?_))))
    refine succ ?_
    simp only [figureheadref13_Scan.j1]
    rw [w64 (x := (p : Int) + lenE r) (by omega) (by omega)]
    refine neg (by simp) (neg hr (pos (by omega) ?_))
    have hdec : decide (op ≥ 0) = !decide (op < 0) := by
      by_cases ho : op < 0
      · rw [decide_eq_true ho, decide_eq_false (by omega)]; rfl
      · rw [decide_eq_false ho, decide_eq_true (by omega)]; rfl
    have := ih (acc ++ [⟨r, !decide (op < 0), (p : Int)⟩]) (p + (encodeRune r).length) (by omega) hdl.2 (fun x hx => ha x (by simp [hx])) (by simp; omega)
    simp only [hdec]
    simpa using this
theorem refScan_good (s : ByteArray) (hs : s.size ≤ 1000000000) (rs : List Int) (ha : All rs) (h : L s = encAll rs) {out : List S48} {o : Int} (hsc : Sc rs 0 (-1) out o) : Ev (fun k => figureheadref13_Scan.f k s) (fin13 out o) := by
  simp only [figureheadref13_Scan.f]
  have hr := refRunes_ev s (by omega) rs [] ⟨ha, by simpa using h, .inl rfl⟩
  refine Ev.bind hr ?_
  unfold refRunesR
  rw [if_pos rfl]
  refine neg (by simp) ?_
  have := refScan_l0 s hs hsc [] 0 rfl (by simpa using h) ha (by simp)
  simpa using this
theorem refScan_bad (s : ByteArray) (hs : s.size ≤ 1000000000) (rs : List Int) (rest : List UInt8) (h : TextForm (L s) rs rest) (hr : rest ≠ []) : Ev (fun k => figureheadref13_Scan.f k s) ([], 2, ((encAll rs).length : Int)) := by
  simp only [figureheadref13_Scan.f]
  refine Ev.bind (refRunes_ev s (by omega) rs rest h) ?_
  unfold refRunesR
  rw [if_neg hr]
  exact pos (by simp) (Ev.now _)
/-- The scanner and the reference find the same. -/
theorem v39 : validRune 39 = true := by decide +kernel
theorem sc_valid {m : List Int} {a op o : Int} {out : List S48} (h : Sc m a op out o) : All m → ∀ x ∈ out, validRune x.f0 = true := by
  induction h with
  | nil a op => intro _ x hx; cases hx
  | pair h ih =>
    intro ha x hx
    rcases List.mem_cons.1 hx with rfl | hx
    · exact v39
    · exact ih (fun x hx => ha x (by simp [hx])) x hx
  | quote hm h ih => exact fun ha => ih (fun x hx => ha x (by simp [hx]))
  | other hr h ih =>
    intro ha x hx
    rcases List.mem_cons.1 hx with rfl | hx
    · exact ha _ List.mem_cons_self
    · exact ih (fun x hx => ha x (by simp [hx])) x hx
/-- Whatever a text is, the reference scans it; its tokens are 400 at the most, and code points. -/
theorem scan_ex (s : ByteArray) (hs : s.size ≤ 1000000000) : ∃ (k : Nat) (tl : List S48) (E ea : Int), figureheadref13_Scan.f k s = some (tl, E, ea) ∧ tl.length ≤ 400 ∧ ∀ x ∈ tl, validRune x.f0 = true := by
  obtain ⟨rs, rest, hf⟩ := form (L s)
  by_cases hr : rest = []
  · subst hr
    obtain ⟨out, o, hsc⟩ := sc_ex rs.length rs 0 (-1) (Nat.le_refl _)
    have he : L s = encAll rs := by rw [hf.2.1, List.append_nil]
    obtain ⟨k, hk⟩ := Ev.rounds (refScan_good s hs rs hf.1 he hsc)
    unfold fin13 at hk
    split at hk
    · exact ⟨k, [], 3, o, hk, by simp, by simp⟩
    split at hk
    · exact ⟨k, [], 8, 0, hk, by simp, by simp⟩
    · exact ⟨k, out, 0, 0, hk, by omega, sc_valid hsc hf.1⟩
  · obtain ⟨k, hk⟩ := Ev.rounds (refScan_bad s hs rs rest hf hr)
    exact ⟨k, [], 2, _, hk, by simp, by simp⟩
end Go.Proofs.Ytkgdpgoianimjaa.Pure
