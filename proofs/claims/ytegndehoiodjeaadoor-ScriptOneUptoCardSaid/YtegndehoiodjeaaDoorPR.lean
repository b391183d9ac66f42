/- Words as bytes, the plain side: what the program's unhex and the reference's bytes answer. -/
import Derived.Test.YtegndehoiodjeaaDoorU
import Derived.Test.YtegndehoiodjeaaDoorQ
import Derived.Test.YtegndehoiodjeaaDoorPH
import Derived.Test.YtegndehoiodjeaaDoorPrint2
import Derived.Test.YtegndehoiodjeaaDoorPrint4
namespace Go.Proofs.YtegndehoiodjeaaDoor.Pure
open Go.RowKit Go.Lib Go.Proofs.YtegndehoiodjeaaDoor.Print Go.Proofs.YtegndehoiodjeaaDoor.U Go.Proofs.YtegndehoiodjeaaDoor.Q Go.Proofs.YtegndehoiodjeaaDoorW.PrintWords
set_option linter.unusedVariables false
set_option linter.unusedSimpArgs false

/-- A digit's value, or -1. -/
def dv (b : UInt8) : Int := match hv b with
  | some k => (k : Int)
  | none => -1
theorem dv_index : ∀ b : Fin 256, Lib.indexByte [48, 49, 50, 51, 52, 53, 54, 55, 56, 57, 97, 98, 99, 100, 101, 102] (UInt8.ofNat b.1) = dv (UInt8.ofNat b.1) := by decide +kernel
theorem dv_digit : ∀ b : Fin 256, figureheadref25_digit.l0 20 ((UInt8.ofNat b.1).toNat : Int) 0 = some (dv (UInt8.ofNat b.1)) := by decide +kernel
theorem index_dv (b : UInt8) : Lib.indexByte [48, 49, 50, 51, 52, 53, 54, 55, 56, 57, 97, 98, 99, 100, 101, 102] b = dv b := by
  have := dv_index ⟨b.toNat, b.toNat_lt⟩
  rwa [show UInt8.ofNat b.toNat = b from UInt8.ofNat_toNat] at this
theorem digit25_ev (b : UInt8) : Ev (fun k => figureheadref25_digit.f k (b.toNat : Int)) (dv b) := by
  refine Ev.of (k := 20) (figureheadref25_digit.mono _) ?_
  have := dv_digit ⟨b.toNat, b.toNat_lt⟩
  rwa [show UInt8.ofNat b.toNat = b from UInt8.ofNat_toNat] at this
theorem indexf_dv (b : UInt8) : strings_IndexByte.f (⟨#[48, 49, 50, 51, 52, 53, 54, 55, 56, 57, 97, 98, 99, 100, 101, 102]⟩ : ByteArray) (b.toNat : Int) = some (dv b) := by
  unfold strings_IndexByte.f
  rw [Int.toNat_natCast, Nat.toUInt8, show UInt8.ofNat b.toNat = b from UInt8.ofNat_toNat, index_dv]
theorem dv_or : ∀ x y : Fin 16, (Go.bits .or .i64 (wrap64 ((x.1 : Int) * 16)) (y.1 : Int)) % 256 = ((UInt8.ofNat (x.1 * 16 + y.1)).toNat : Int) := by decide +kernel
theorem dv_add : ∀ x y : Fin 16, (wrap64 ((wrap64 ((x.1 : Int) * 16)) + (y.1 : Int))) % 256 = ((UInt8.ofNat (x.1 * 16 + y.1)).toNat : Int) := by decide +kernel
theorem hv_lt (b : UInt8) (k : Nat) (h : hv b = some k) : k < 16 := (hv_some b k h).1
/-- What is gathered, with what comes behind. -/
def resX (acc : List Int) (o : Option (List UInt8)) : ByteArray × Bool := match o with
  | some t => (strOfNums (acc ++ t.map fun b => (b.toNat : Int)), true)
  | none => ((⟨#[]⟩ : ByteArray), false)
theorem strOfNums_map (t : List UInt8) : strOfNums (t.map fun b => (b.toNat : Int)) = ⟨t.toArray⟩ := by
  apply L_inj
  rw [L_mk]
  simp only [strOfNums, L]
  induction t with
  | nil => rfl
  | cons b r ih =>
    simp at ih ⊢
    try exact ih
theorem drop_two (s : ByteArray) (i : Nat) (hi : i + 1 < s.size) : ∃ a b, (L s).drop i = a :: b :: (L s).drop (i + 2) ∧ bt s (i : Int) = (a.toNat : Int) ∧ bt s ((i : Int) + 1) = (b.toNat : Int) := by
  have h0 : i < (L s).length := by rw [L_len]; omega
  have h1 : i + 1 < (L s).length := by rw [L_len]; omega
  refine ⟨(L s)[i], (L s)[i + 1], ?_, ?_, ?_⟩
  · rw [List.drop_eq_getElem_cons h0, List.drop_eq_getElem_cons h1]
  · rw [btH_L, List.getD_eq_getElem?_getD, List.getElem?_eq_getElem h0]; rfl
  · rw [show ((i : Int) + 1) = ((i + 1 : Nat) : Int) by omega, btH_L, List.getD_eq_getElem?_getD, List.getElem?_eq_getElem h1]; rfl
theorem dv_some (b : UInt8) (k : Nat) (h : hv b = some k) : dv b = (k : Int) := by unfold dv; rw [h]
theorem dv_none (b : UInt8) (h : hv b = none) : dv b = -1 := by unfold dv; rw [h]
theorem unhexL_cons (a b : UInt8) (r : List UInt8) : unhexL (a :: b :: r) = (hv a).bind fun x => (hv b).bind fun y => (unhexL r).map fun t => UInt8.ofNat (x * 16 + y) :: t := rfl
theorem resX_step (acc : List Int) (c : UInt8) (o : Option (List UInt8)) : resX (acc ++ [(c.toNat : Int)]) o = resX acc (o.map fun t => c :: t) := by
  cases o with
  | none => rfl
  | some t => simp [resX]

theorem unhex_l0 (s : ByteArray) (hs : s.size ≤ 1000000000000) : ∀ (d i : Nat) (acc : List Int), i + 2 * d = s.size → acc.length ≤ i → Ev (fun k => script_unhex.l0 k s acc (i : Int)) (resX acc (unhexL ((L s).drop i)))
  | 0, i, acc, hd_, hl => by
    refine succ ?_
    simp only [script_unhex.l0]
    rw [List.drop_of_length_le (by rw [L_len]; omega)]
    have e : resX acc (unhexL []) = (strOfNums acc, true) := by simp [unhexL, resX]
    rw [e]
    exact neg (by omega) (Ev.now _)
  | d + 1, i, acc, hd_, hl => by
    refine succ ?_
    simp only [script_unhex.l0]
    obtain ⟨a, b, h1, h2, h3⟩ := drop_two s i (by omega)
    rw [w64 (x := (i : Int) + 1) (by omega) (by omega), w64 (x := (i : Int) + 2) (by omega) (by omega), h2, h3, indexf_dv, indexf_dv]
    simp only [Option.bind_some]
    refine pos (by omega) (pos (by omega) (pos (by omega) (pos (by omega) ?_)))
    rw [h1, unhexL_cons]
    cases ha : hv a with
    | none =>
      rw [dv_none a ha]
      exact pos (by omega) (Ev.now _)
    | some x =>
      have hx := hv_lt a x ha
      rw [dv_some a x ha]
      refine neg (by omega) ?_
      cases hb : hv b with
      | none =>
        rw [dv_none b hb]
        exact pos (by omega) (Ev.now _)
      | some y =>
        have hy := hv_lt b y hb
        rw [dv_some b y hb, dv_or ⟨x, hx⟩ ⟨y, hy⟩]
        refine neg (by omega) (pos (by omega) ?_)
        have ih := unhex_l0 s hs d (i + 2) (acc ++ [((UInt8.ofNat (x * 16 + y)).toNat : Int)]) (by omega) (by simp; omega)
        rw [resX_step] at ih
        simpa using ih
theorem bytes_l0 (s : ByteArray) (hs : s.size ≤ 1000000000000) : ∀ (d i : Nat) (acc : List Int), i + 2 * d = s.size → acc.length ≤ i → Ev (fun k => figureheadref25_bytes.l0 k s acc (i : Int)) (resX acc (unhexL ((L s).drop i)))
  | 0, i, acc, hd_, hl => by
    refine succ ?_
    simp only [figureheadref25_bytes.l0]
    rw [List.drop_of_length_le (by rw [L_len]; omega)]
    have e : resX acc (unhexL []) = (strOfNums acc, true) := by simp [unhexL, resX]
    rw [e]
    exact neg (by omega) (Ev.now _)
  | d + 1, i, acc, hd_, hl => by
    refine succ ?_
    simp only [figureheadref25_bytes.l0]
    obtain ⟨a, b, h1, h2, h3⟩ := drop_two s i (by omega)
    rw [w64 (x := (i : Int) + 1) (by omega) (by omega), w64 (x := (i : Int) + 2) (by omega) (by omega), h2, h3]
    refine pos (by omega) (pos (by omega) (Ev.bind (digit25_ev a) (pos (by omega) (pos (by omega) (Ev.bind (digit25_ev b) ?_)))))
    rw [h1, unhexL_cons]
    cases ha : hv a with
    | none =>
      rw [dv_none a ha]
      exact pos (by omega) (Ev.now _)
    | some x =>
      have hx := hv_lt a x ha
      rw [dv_some a x ha]
      refine neg (by omega) ?_
      cases hb : hv b with
      | none =>
        rw [dv_none b hb]
        exact pos (by omega) (Ev.now _)
      | some y =>
        have hy := hv_lt b y hb
        rw [dv_some b y hb, dv_add ⟨x, hx⟩ ⟨y, hy⟩]
        refine neg (by omega) (pos (by omega) ?_)
        have ih := bytes_l0 s hs d (i + 2) (acc ++ [((UInt8.ofNat (x * 16 + y)).toNat : Int)]) (by omega) (by simp; omega)
        rw [resX_step] at ih
        simpa using ih
/-- A word's bytes behind its x. -/
def bytesR (s : ByteArray) : ByteArray × Bool := match bytesX (L s) with
  | some t => (⟨t.toArray⟩, true)
  | none => ((⟨#[]⟩ : ByteArray), false)
theorem unhexL_even : ∀ (l t : List UInt8), unhexL l = some t → l.length % 2 = 0
  | [], _, _ => rfl
  | [_], t, h => by simp [unhexL] at h
  | a :: b :: r, t, h => by
    rw [unhexL_cons] at h
    cases ha : hv a with
    | none => rw [ha] at h; cases h
    | some x =>
      cases hb : hv b with
      | none => rw [ha, hb] at h; cases h
      | some y =>
        cases hr : unhexL r with
        | none => rw [ha, hb, hr] at h; cases h
        | some u =>
          have := unhexL_even r u hr
          simp only [List.length_cons]
          omega
theorem bytesR_even (s : ByteArray) (h : s.size % 2 = 0) : bytesR s = ((⟨#[]⟩ : ByteArray), false) := by
  unfold bytesR
  cases hb : bytesX (L s) with
  | none => rfl
  | some t =>
    exfalso
    unfold bytesX at hb
    split at hb
    · rename_i hh
      have := unhexL_even _ t hb
      cases hl : L s with
      | nil => rw [hl] at hh; cases hh
      | cons x r =>
        have hz := L_len s
        rw [hl] at this hz
        simp at this hz
        omega
    · cases hb
theorem bytesR_odd (s : ByteArray) (b : UInt8) (r : List UInt8) (h : L s = b :: r) : bytesR s = if b = 120 then resX [] (unhexL r) else ((⟨#[]⟩ : ByteArray), false) := by
  unfold bytesR bytesX
  rw [h]
  by_cases hb : b = 120
  · rw [if_pos hb, if_pos (by simp [hb]), List.tail_cons]
    cases unhexL r with
    | none => rfl
    | some t => simp only [resX, List.nil_append]; rw [strOfNums_map]
  · rw [if_neg hb, if_neg (by simpa using hb)]
theorem bt_zero (s : ByteArray) (b : UInt8) (r : List UInt8) (h : L s = b :: r) : bt s 0 = (b.toNat : Int) := by
  have := btH_L s 0
  rw [h] at this
  exact this
theorem byte_ne (b c : UInt8) (h : b ≠ c) : (b.toNat : Int) ≠ (c.toNat : Int) := fun e => h (UInt8.toNat_inj.1 (by omega))
theorem unhex_ev (s : ByteArray) (hs : s.size ≤ 1000000000000) : Ev (fun k => script_unhex.f k s) (bytesR s) := by
  simp only [script_unhex.f]
  by_cases h0 : s.size % 2 = 0
  · rw [bytesR_even s h0]
    refine pos (by omega) (succ ?_)
    simp only [script_unhex.j0]
    exact pos (by simp) (Ev.now _)
  · refine neg (by omega) (pos (by omega) (succ ?_))
    simp only [script_unhex.j0]
    obtain ⟨b, r, hl⟩ : ∃ b r, L s = b :: r := List.exists_cons_of_ne_nil (fun e => by have := L_len s; rw [e] at this; simp at this; omega)
    rw [bytesR_odd s b r hl, bt_zero s b r hl]
    by_cases hb : b = 120
    · rw [if_pos hb, hb]
      refine neg (by simp) ?_
      have := unhex_l0 s hs ((s.size - 1) / 2) 1 [] (by omega) (by simp)
      rw [hl] at this
      exact this
    · rw [if_neg hb]
      exact pos (bne_iff_ne.2 (byte_ne b 120 hb)) (Ev.now _)
theorem bytes25_ev (s : ByteArray) (hs : s.size ≤ 1000000000000) : Ev (fun k => figureheadref25_bytes.f k s) (bytesR s) := by
  simp only [figureheadref25_bytes.f]
  by_cases h0 : s.size % 2 = 0
  · rw [bytesR_even s h0]
    refine neg (by omega) (succ ?_)
    simp only [figureheadref25_bytes.j0]
    exact pos (by simp) (Ev.now _)
  · refine pos (by omega) (pos (by omega) (succ ?_))
    simp only [figureheadref25_bytes.j0]
    obtain ⟨b, r, hl⟩ : ∃ b r, L s = b :: r := List.exists_cons_of_ne_nil (fun e => by have := L_len s; rw [e] at this; simp at this; omega)
    rw [bytesR_odd s b r hl, bt_zero s b r hl]
    by_cases hb : b = 120
    · rw [if_pos hb, hb]
      refine neg (by simp) ?_
      have := bytes_l0 s hs ((s.size - 1) / 2) 1 [] (by omega) (by simp)
      rw [hl] at this
      exact this
    · rw [if_neg hb]
      exact pos (bne_iff_ne.2 (byte_ne b 120 hb)) (Ev.now _)

end Go.Proofs.YtegndehoiodjeaaDoor.Pure
