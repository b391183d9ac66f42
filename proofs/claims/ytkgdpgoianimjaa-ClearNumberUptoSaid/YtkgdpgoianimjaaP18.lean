/- Layer 18, the plain side: what symbol.Good, symbol.Text and the reference's Good, MayItems, Text answer. -/
import Derived.Test.YtkgdpgoianimjaaPrint5
import Derived.Test.YtkgdpgoianimjaaRt
import Derived.Test.YtkgdpgoianimjaaPZ
import Derived.Test.YtkgdpgoianimjaaFS
namespace Go.Proofs.Ytkgdpgoianimjaa.Pure
open Go.RowKit Go.Lib Go.Proofs.Ytkgdpgoianimjaa.Print Go.Proofs.Ytkgdpgoianimjaa.U Go.Proofs.Ytkgdpgoianimjaa.Utf Go.Proofs.YtkgdpgoianimjaaW.PrintWords
set_option linter.unusedVariables false
set_option linter.unusedSimpArgs false

theorem rdOf_at {α : Type} (z : α) (l : List α) (i : Nat) (h : i < l.length) : rdOf z l (i : Int) = l[i] := by
  unfold rdOf
  rw [Int.toNat_natCast, List.getD_eq_getElem?_getD, List.getElem?_eq_getElem h]
  rfl
theorem bad_form (x : ByteArray) (rs : List Int) (rest : List UInt8) (h : TextForm (L x) rs rest) : badFrom x x.size 0 = if rest = [] then -1 else ((encAll rs).length : Int) := by
  rw [badFrom_form x x.size 0 rs rest (by omega) (by simpa using h)]
  simp
theorem L_nil_iff (x : ByteArray) : L x = [] ↔ x.size = 0 := by
  rw [← L_len, List.length_eq_zero_iff]
theorem refGood_l0 (ts : List ByteArray) (hts : ∀ x ∈ ts, x.size ≤ 1000000000000) (hl : ts.length ≤ 1000) (z : Int) (hz : z ≤ 2147483647) (s1 s2 s3 s4 s5 s6 s7 s8 : ByteArray) : ∀ (d i : Nat), i + d = ts.length →
    Ev (fun k => figureheadref18_Good.l0 k ts (ts.length : Int) (i : Int) z s1 s2 s3 s4 s5 s6 s7 s8) ((ts.drop i).all goodT && goodZ z)
  | 0, i, hd => by
    refine succ ?_
    simp only [figureheadref18_Good.l0]
    rw [List.drop_of_length_le (by omega)]
    refine neg (by omega) ?_
    by_cases h0 : z ≥ 0
    · exact pos h0 (Ev.bind (zero_ev z h0 hz) (mk (fun _ => by simp)))
    · rw [show goodZ z = false from by unfold goodZ; exact decide_eq_false (by omega)]
      exact neg h0 (mk (fun _ => by simp))
  | d + 1, i, hd => by
    refine succ ?_
    simp only [figureheadref18_Good.l0]
    have hi : i < ts.length := by omega
    rw [rdOf_at _ _ _ hi, List.drop_eq_getElem_cons hi, List.all_cons]
    obtain ⟨x, hx⟩ : ∃ x, ts[i] = x := ⟨_, rfl⟩
    have hxs : x.size ≤ 1000000000000 := hts x (by rw [← hx]; exact List.getElem_mem _)
    rw [hx]
    obtain ⟨rs, rest, hf⟩ := form (L x)
    refine pos (by omega) (pos (by omega) (pos (by omega) (Ev.bind (refRunes_ev x hxs rs rest hf) ?_)))
    unfold refRunesR
    have no : goodT x = false → Ev (fun _ : Nat => some false) (goodT x && (ts.drop (i + 1)).all goodT && goodZ z) := fun h => by
      rw [h]
      exact mk (fun _ => rfl)
    by_cases h0 : L x = []
    · exact pos (by rw [toList_L]; exact h0) (no (decide_eq_false (fun h => h.1 ((L_nil_iff x).1 h0))))
    refine neg (by rw [toList_L]; exact h0) ?_
    by_cases h1 : (x.size : Int) > 16
    · exact pos h1 (no (decide_eq_false (fun h => by omega)))
    refine neg h1 ?_
    by_cases hr : rest = []
    · rw [if_pos hr, show goodT x = true from decide_eq_true ⟨fun h => h0 ((L_nil_iff x).2 h), by omega, by rw [bad_form x rs rest hf, if_pos hr]; omega⟩, Bool.true_and]
      refine neg (by simp) ?_
      rw [w64 (by omega) (by omega)]
      have := refGood_l0 ts hts hl z hz s1 s2 s3 s4 s5 s6 s7 s8 d (i + 1) (by omega)
      simpa using this
    · rw [if_neg hr]
      refine pos (by simp only; omega) (no (decide_eq_false (fun h => ?_)))
      have := h.2.2
      rw [bad_form x rs rest hf, if_neg hr] at this
      omega
theorem refGood_ev (z : Int) (hz : z ≤ 2147483647) (s1 s2 s3 s4 s5 s6 s7 s8 : ByteArray) (hts : ∀ x ∈ [s1, s2, s3, s4, s5, s6, s7, s8], x.size ≤ 1000000000000) :
    Ev (fun k => figureheadref18_Good.f k z s1 s2 s3 s4 s5 s6 s7 s8) ([s1, s2, s3, s4, s5, s6, s7, s8].all goodT && goodZ z) := by
  simp only [figureheadref18_Good.f, Option.bind_some]
  have := refGood_l0 [s1, s2, s3, s4, s5, s6, s7, s8] hts (by simp) z hz s1 s2 s3 s4 s5 s6 s7 s8 8 0 rfl
  simpa using this
theorem good_sizes {ts : List ByteArray} (h : ts.all goodT = true) : ∀ x ∈ ts, x.size ≤ 16 := fun x hx => (of_decide_eq_true (List.all_eq_true.1 h x hx)).2.1

/-! ### items -/
/-- May an item be? -/
def mayI (x : S57) : Bool := decide (1 ≤ x.f0 ∧ x.f0 ≤ 6 ∧ (1 < x.f0 → x.f1 = 0) ∧ (x.f0 = 1 → Lib.validRune x.f1 = true))
theorem rdT_at (l : List S57) (i : Nat) (h : i < l.length) : rd_T57 l (i : Int) = l[i] := by
  unfold rd_T57
  rw [Int.toNat_natCast, List.getD_eq_getElem?_getD, List.getElem?_eq_getElem h]
  rfl
theorem itemT_some (s3 s4 s5 s6 s7 : ByteArray) (x : S57) (h : mayI x = true) : itemT s3 s4 s5 s6 s7 x = some (if x.f0 = 1 then Lib.encodeRune x.f1 else L (sgn s3 s4 s5 s6 s7 x.f0).1) := by
  have h := of_decide_eq_true h
  unfold itemT
  by_cases h1 : x.f0 = 1
  · rw [if_neg (fun hh => by rw [h1] at hh; cases hh.1), if_pos ⟨h1, h.2.2.2 h1⟩, if_pos h1]
  · have hs : (sgn s3 s4 s5 s6 s7 x.f0).2 = true := by
      unfold sgn
      repeat' split
      all_goals first | rfl | omega
    rw [if_pos ⟨hs, h.2.2.1 (by omega)⟩, if_neg h1]
theorem sgn_size (s3 s4 s5 s6 s7 : ByteArray) (h : s3.size ≤ 16 ∧ s4.size ≤ 16 ∧ s5.size ≤ 16 ∧ s6.size ≤ 16 ∧ s7.size ≤ 16) (k : Int) : (sgn s3 s4 s5 s6 s7 k).1.size ≤ 16 := by
  unfold sgn
  repeat' split
  all_goals first | (dsimp only; omega) | (show 0 ≤ 16; omega)
theorem refText_l0 (z : Int) (s1 s2 s3 s4 s5 s6 s7 s8 : ByteArray) (h16 : s3.size ≤ 16 ∧ s4.size ≤ 16 ∧ s5.size ≤ 16 ∧ s6.size ≤ 16 ∧ s7.size ≤ 16) (l : List S57) (hl : l.length ≤ 1000000000) (hm : l.all mayI = true) :
    ∀ (d i : Nat) (acc : ByteArray), i + d = l.length → acc.size ≤ 16 * i → itemsT s3 s4 s5 s6 s7 (l.take i) = some (L acc) →
    Ev (fun k => figureheadref18_Text.l0 k l acc (i : Int) z s1 s2 s3 s4 s5 s6 s7 s8) ⟨((itemsT s3 s4 s5 s6 s7 l).getD []).toArray⟩
  | 0, i, acc, hd, hal, hacc => by
    refine succ ?_
    simp only [figureheadref18_Text.l0]
    rw [List.take_of_length_le (by omega)] at hacc
    rw [hacc]
    refine neg (by omega) (mk (fun _ => ?_))
    congr 1
  | d + 1, i, acc, hd, hal, hacc => by
    refine succ ?_
    simp only [figureheadref18_Text.l0]
    have hi : i < l.length := by omega
    have hmx : mayI l[i] = true := List.all_eq_true.1 hm _ (List.getElem_mem _)
    have hit := itemT_some s3 s4 s5 s6 s7 l[i] hmx
    have hmx := of_decide_eq_true hmx
    rw [rdT_at l i hi, w64 (by omega) (by omega)]
    have hx : l[i]? = some l[i] := List.getElem?_eq_getElem hi
    have next : ∀ (t : ByteArray), t.size ≤ 16 → itemT s3 s4 s5 s6 s7 l[i] = some (L t) → Ev (fun k => if acc.size + t.size ≤ 9223372036854775807 then figureheadref18_Text.l0 k l (acc ++ t) ((i : Int) + 1) z s1 s2 s3 s4 s5 s6 s7 s8 else none) ⟨((itemsT s3 s4 s5 s6 s7 l).getD []).toArray⟩ := fun t ht he => by
      refine pos (by omega) ?_
      have := refText_l0 z s1 s2 s3 s4 s5 s6 s7 s8 h16 l hl hm d (i + 1) (acc ++ t) (by omega) (by rw [size_app]; omega) (by rw [L_app]; exact itemsT_succ s3 s4 s5 s6 s7 l i _ _ _ hx hacc he)
      simpa using this
    refine pos (by omega) (pos (by omega) ?_)
    by_cases c1 : l[i].f0 = 1
    · have hv := hmx.2.2.2 c1
      rw [if_pos c1] at hit
      refine pos c1 ?_
      rw [refBytes_val _ hv]
      simp only [Option.bind_some]
      rw [str_enc]
      exact next ⟨(Lib.encodeRune l[i].f1).toArray⟩ (by rw [size_mk]; have := (enc_len l[i].f1).2; omega) (by rw [hit, L_mk])
    rw [if_neg c1] at hit
    refine neg c1 ?_
    have hs := sgn_size s3 s4 s5 s6 s7 h16
    by_cases c2 : l[i].f0 = 2
    · rw [c2] at hit; exact pos c2 (next s3 (by omega) hit)
    refine neg c2 ?_
    by_cases c3 : l[i].f0 = 3
    · rw [c3] at hit; exact pos c3 (next s4 (by omega) hit)
    refine neg c3 ?_
    by_cases c4 : l[i].f0 = 4
    · rw [c4] at hit; exact pos c4 (next s5 (by omega) hit)
    refine neg c4 ?_
    by_cases c5 : l[i].f0 = 5
    · rw [c5] at hit; exact pos c5 (next s6 (by omega) hit)
    refine neg c5 ?_
    by_cases c6 : l[i].f0 = 6
    · rw [c6] at hit; exact pos c6 (next s7 (by omega) hit)
    · omega
theorem refText18_ev (z : Int) (s1 s2 s3 s4 s5 s6 s7 s8 : ByteArray) (h16 : s3.size ≤ 16 ∧ s4.size ≤ 16 ∧ s5.size ≤ 16 ∧ s6.size ≤ 16 ∧ s7.size ≤ 16) (l : List S57) (hl : l.length ≤ 1000000000) (hm : l.all mayI = true) :
    Ev (fun k => figureheadref18_Text.f k z s1 s2 s3 s4 s5 s6 s7 s8 l) ⟨((itemsT s3 s4 s5 s6 s7 l).getD []).toArray⟩ := by
  simp only [figureheadref18_Text.f]
  exact refText_l0 z s1 s2 s3 s4 s5 s6 s7 s8 h16 l hl hm l.length 0 ⟨#[]⟩ (by omega) (by decide) rfl
theorem symText_val (z : Int) (s1 s2 s3 s4 s5 s6 s7 s8 : ByteArray) (h16 : s3.size ≤ 16 ∧ s4.size ≤ 16 ∧ s5.size ≤ 16 ∧ s6.size ≤ 16 ∧ s7.size ≤ 16) (l : List S57) (hl : l.length ≤ 1000000000) :
    symbol_Text.f z s1 s2 s3 s4 s5 s6 s7 s8 l = some ⟨((itemsT s3 s4 s5 s6 s7 l).getD []).toArray⟩ := by
  unfold symbol_Text.f
  have := Nat.mul_le_mul (show l.length + 1 ≤ 1000000001 by omega) (show s3.size + s4.size + s5.size + s6.size + s7.size + 4 ≤ 84 by omega)
  rw [if_pos (by omega)]
theorem good16 {s1 s2 s3 s4 s5 s6 s7 s8 : ByteArray} (h : [s1, s2, s3, s4, s5, s6, s7, s8].all goodT = true) : s3.size ≤ 16 ∧ s4.size ≤ 16 ∧ s5.size ≤ 16 ∧ s6.size ≤ 16 ∧ s7.size ≤ 16 := by
  have := good_sizes h
  exact ⟨this _ (by simp), this _ (by simp), this _ (by simp), this _ (by simp), this _ (by simp)⟩
end Go.Proofs.Ytkgdpgoianimjaa.Pure
