/- Package utf's Bad, Runes and Text: what they answer, as plain functions over the model's own decoder, and their contracts. -/
import Derived.Test.YtkgdpgoianimjaaShelf
import Derived.WalkKit
import Derived.BigCall
import Derived.Lib.RuneCount
import Derived.Lib.TrimUEq
import Derived.Lib.RuneBytes
import Derived.Lib.Hide
import Derived.Test.YtkgdpgoianimjaaU
import Derived.Test.YtkgdpgoianimjaaPrint0
namespace Go.Proofs.Ytkgdpgoianimjaa.Print
open Go.RowKit Go.Proofs.Ytkgdpgoianimjaa.Utf Go.Proofs.YtkgdpgoianimjaaW.PrintWords Go.Proofs.YtkgdpgoianimjaaW.PrintLast Go.Proofs.YtkgdpgoianimjaaW.PrintMore
set_option linter.unusedVariables false
set_option linter.unusedSimpArgs false

/-- Where no code point begins, from a place on. -/
def badFrom (s : ByteArray) : Nat → Nat → Int
  | 0, _ => -1
  | f + 1, p => if p < s.size then (if (Utf8.decode s p).1 = 65533 ∧ (Utf8.decode s p).2 = 1 then (p : Int) else badFrom s f (p + (Utf8.decode s p).2)) else -1
/-- The code points, from a place on. -/
def runesFrom (s : ByteArray) : Nat → Nat → List Int
  | 0, _ => []
  | f + 1, p => if p < s.size then ((Utf8.decode s p).1 : Int) :: runesFrom s f (p + (Utf8.decode s p).2) else []
theorem heap_keeps {w W : World} (h : Below w.heap.size w W) {k : Nat} {o : Obj} (hk : w.heap[k]? = some o) : W.heap[k]? = some o := (h.block k (Array.getElem?_eq_some_iff.1 hk).1).trans hk
theorem cell_spot {w : World} {bk o : Nat} {sp : Option Nat} {v : Value} (h : w.cell? ⟨bk, o, sp⟩ = some v) : none = sp := by
  unfold World.cell? at h
  split at h
  · cases sp with
    | none => rfl
    | some x => cases h
  · cases h
theorem scalar_any (r : Int) (w : World) : Calls Try.prog 40 #[.int .i32 r] w fun e w' => e = .returned (.bool (Lib.validRune r)) ∧ w' = w := by
  go_enter Try.func40, Try.ntmps40
  go_wp2_with (go_at_call 50; refine (Try.utf8_ValidRune r _).mono ?_; rintro e w' ⟨rfl, rfl⟩)
  go_ret
  exact ⟨rfl, rfl⟩
end Go.Proofs.Ytkgdpgoianimjaa.Print
/- What Bad and Runes find in a text, by its one form. -/
namespace Go.Proofs.Ytkgdpgoianimjaa.Print
open Go.RowKit Go.Lib Go.Proofs.Ytkgdpgoianimjaa.U Go.Proofs.Ytkgdpgoianimjaa.Utf Go.Proofs.YtkgdpgoianimjaaW.PrintWords
set_option linter.unusedVariables false
set_option linter.unusedSimpArgs false

theorem dec_atF (s : ByteArray) (p : Nat) : Utf8.decode s p = decodeL ((L s).drop p) := (decodeL_drop s p).symm
theorem badFrom_formF (s : ByteArray) : ∀ (f p : Nat) (rs : List Int) (rest : List UInt8), s.size ≤ p + f → TextForm ((L s).drop p) rs rest → badFrom s f p = if rest = [] then -1 else (p : Int) + (encAll rs).length
  | 0, p, rs, rest, hf, ⟨ha, h, hr⟩ => by
    have h0 : (L s).drop p = [] := List.drop_eq_nil_of_le (by rw [L_len]; omega)
    rw [h0] at h
    have := List.append_eq_nil_iff.1 h.symm
    rw [if_pos this.2]
    rfl
  | f + 1, p, rs, rest, hf, hform => by
    unfold badFrom
    by_cases hp : p < s.size
    · rw [if_pos hp, dec_atF]
      have hne : (L s).drop p ≠ [] := fun h => by
        have := congrArg List.length h
        rw [List.length_drop, L_len, List.length_nil] at this
        omega
      obtain ⟨ha, h, hr⟩ := hform
      cases rs with
      | nil =>
        rw [encAll_nil, List.nil_append] at h
        rw [h] at hne ⊢
        rcases hr with hr | hr
        · exact absurd hr hne
        · unfold Bad at hr
          rw [hr, if_pos ⟨rfl, rfl⟩, if_neg hne, encAll_nil]
          simp
      | cons r rs =>
        have hr0 := ha r (by simp)
        have hd : decodeL ((L s).drop p) = (r.toNat, (encodeRune r).length) := by rw [h, encAll_cons, List.append_assoc, dec_enc r hr0]
        have hnb : ¬ (r.toNat = 65533 ∧ (encodeRune r).length = 1) := fun hh => enc_not_bad r hr0 (encAll rs ++ rest) (by unfold Bad; rw [dec_enc r hr0]; exact Prod.ext hh.1 hh.2)
        rw [hd, if_neg hnb]
        have hdr : (L s).drop (p + (encodeRune r).length) = encAll rs ++ rest := by rw [← List.drop_drop, h, encAll_cons, List.append_assoc, List.drop_left]
        have h1 := (enc_len r).1
        rw [badFrom_formF s f (p + (encodeRune r).length) rs rest (by omega) ⟨fun x hx => ha x (by simp [hx]), hdr, hr⟩]
        by_cases hn : rest = []
        · rw [if_pos hn, if_pos hn]
        · rw [if_neg hn, if_neg hn, encAll_cons, List.length_append]
          omega
    · rw [if_neg hp]
      have h0 : (L s).drop p = [] := List.drop_eq_nil_of_le (by rw [L_len]; omega)
      obtain ⟨ha, h, hr⟩ := hform
      rw [h0] at h
      rw [if_pos (List.append_eq_nil_iff.1 h.symm).2]
theorem runesFrom_formF (s : ByteArray) : ∀ (f p : Nat) (rs : List Int), s.size ≤ p + f → TextForm ((L s).drop p) rs [] → runesFrom s f p = rs
  | 0, p, rs, hf, ⟨ha, h, hr⟩ => by
    have h0 : (L s).drop p = [] := List.drop_eq_nil_of_le (by rw [L_len]; omega)
    rw [h0, List.append_nil] at h
    cases rs with
    | nil => rfl
    | cons r rs =>
      rw [encAll_cons] at h
      exact absurd (List.append_eq_nil_iff.1 h.symm).1 (enc_ne r)
  | f + 1, p, rs, hf, ⟨ha, h, hr⟩ => by
    unfold runesFrom
    rw [List.append_nil] at h
    by_cases hp : p < s.size
    · rw [if_pos hp, dec_atF]
      cases rs with
      | nil =>
        have := congrArg List.length h
        rw [List.length_drop, L_len, encAll_nil, List.length_nil] at this
        omega
      | cons r rs =>
        have hr0 := ha r (by simp)
        have hok := (ok_iff r).1 hr0
        have hd : decodeL ((L s).drop p) = (r.toNat, (encodeRune r).length) := by rw [h, encAll_cons, dec_enc r hr0]
        have hdr : (L s).drop (p + (encodeRune r).length) = encAll rs := by rw [← List.drop_drop, h, encAll_cons, List.drop_left]
        have h1 := (enc_len r).1
        rw [hd, runesFrom_formF s f (p + (encodeRune r).length) rs (by omega) ⟨fun x hx => ha x (by simp [hx]), by rw [hdr]; simp, .inl rfl⟩]
        congr 1
        omega
    · rw [if_neg hp]
      have h0 : (L s).drop p = [] := List.drop_eq_nil_of_le (by rw [L_len]; omega)
      rw [h0] at h
      cases rs with
      | nil => rfl
      | cons r rs =>
        rw [encAll_cons] at h
        exact absurd (List.append_eq_nil_iff.1 h.symm).1 (enc_ne r)
theorem runes_all (s : ByteArray) (h : ¬ badFrom s s.size 0 ≥ 0) : All (runesFrom s s.size 0) ∧ L s = encAll (runesFrom s s.size 0) := by
  obtain ⟨rs, rest, hf⟩ := form (L s)
  have h0 : TextForm ((L s).drop 0) rs rest := by simpa using hf
  have hb := badFrom_formF s s.size 0 rs rest (by omega) h0
  by_cases hr : rest = []
  · subst hr
    rw [runesFrom_formF s s.size 0 rs (by omega) h0]
    exact ⟨hf.1, by rw [hf.2.1, List.append_nil]⟩
  · rw [if_neg hr] at hb
    omega
end Go.Proofs.Ytkgdpgoianimjaa.Print
/- Cuts of a row of anything that is read: what lies there behind a cut. -/
namespace Go.Proofs.Ytkgdpgoianimjaa.Print
open Go.RowKit Go.Proofs.YtkgdpgoianimjaaW.PrintWords Go.Proofs.YtkgdpgoianimjaaW.PrintLast Go.Proofs.YtkgdpgoianimjaaW.PrintMore
set_option linter.unusedVariables false
set_option linter.unusedSimpArgs false

/-- Where a row lies behind a cut. -/
def cutA (A : Option Addr) (c k sz : Nat) : Option Addr := if c = k then A else A.map (·.add (k * sz))
theorem add_add (a : Addr) (i j : Nat) : (a.add i).add j = a.add (i + j) := by
  unfold Addr.add
  by_cases hi : i = 0
  · subst hi
    rw [if_pos rfl, Nat.zero_add]
  · by_cases hj : j = 0
    · subst hj
      rw [if_pos rfl, Nat.add_zero]
    · rw [if_neg hi, if_neg hj, if_neg (by omega)]
      simp [Nat.add_assoc]
theorem C_drop {α : Type} {d : Kd α} {w : World} {A : Option Addr} {l : List α} (h : Kd.C d w A l.length l) (c : Nat) (hc : l.length ≤ c) (k : Nat) (hk : k ≤ l.length) : Kd.C d w (cutA A c k d.sz) (l.drop k).length (l.drop k) := by
  obtain ⟨h1, h2, h3⟩ := h
  refine ⟨rfl, by rw [List.length_drop]; omega, fun hp => ?_⟩
  rw [List.length_drop] at hp
  obtain ⟨ad, rfl, hcell⟩ := h3 (by omega)
  refine ⟨ad.add (k * d.sz), by unfold cutA; rw [if_neg (by omega)]; rfl, fun j p hj => ?_⟩
  rw [List.getElem?_drop] at hj
  obtain ⟨c', hs, hr, hu⟩ := hcell (k + j) p hj
  refine ⟨c', hs, hr, fun i u hi => ?_⟩
  have := hu i u hi
  rw [Nat.add_mul, Nat.add_assoc] at this
  rw [add_add]
  exact this
theorem C_take {α : Type} {d : Kd α} {w : World} {A : Option Addr} {l : List α} (h : Kd.C d w A l.length l) (k : Nat) : Kd.C d w A (l.take k).length (l.take k) := by
  obtain ⟨h1, h2, h3⟩ := h
  refine ⟨rfl, by rw [List.length_take]; omega, fun hp => ?_⟩
  rw [List.length_take] at hp
  obtain ⟨ad, rfl, hcell⟩ := h3 (by omega)
  refine ⟨ad, rfl, fun j p hj => ?_⟩
  refine hcell j p ?_
  rw [List.getElem?_take] at hj
  split at hj
  · exact hj
  · cases hj
theorem get_exG {α : Type} (l : List α) (i : Nat) (h : i < l.length) : ∃ x, l[i]? = some x := ⟨_, List.getElem?_eq_getElem h⟩
end Go.Proofs.Ytkgdpgoianimjaa.Print
