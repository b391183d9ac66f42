/- Small words for the pure side: bytes as lists, rounds that are enough. -/
import Derived.Test.YtkgdpgoianimjaaWWords
import Derived.Lib.Strings
import Derived.Lib.MapLaws
import Derived.Lib.RuneBytes
import Derived.Lib.TrimUEq
namespace Go.Proofs.Ytkgdpgoianimjaa.U
open Go.RowKit Go.Proofs.YtkgdpgoianimjaaW.PrintWords
set_option linter.unusedVariables false
set_option linter.unusedSimpArgs false

abbrev L (s : ByteArray) : List UInt8 := s.data.toList
theorem L_len (s : ByteArray) : (L s).length = s.size := data_length s
theorem L_app (s t : ByteArray) : L (s ++ t) = L s ++ L t := by simp [L, ByteArray.data_append]
theorem L_ext (s : ByteArray) (i j : Nat) : L (s.extract i j) = ((L s).drop i).take (j - i) := Lib.extract_data s i j
theorem toList_L (s : ByteArray) : s.toList = L s := Lib.toList_data s
theorem L_mk (l : List UInt8) : L ⟨l.toArray⟩ = l := by simp [L]
theorem size_mk (l : List UInt8) : (⟨l.toArray⟩ : ByteArray).size = l.length := by simp [ByteArray.size]
theorem size_app (s t : ByteArray) : (s ++ t).size = s.size + t.size := ByteArray.size_append
theorem size_ext (s : ByteArray) (i j : Nat) : (s.extract i j).size = min j s.size - i := ByteArray.size_extract

section
variable {α β : Type}
theorem succ {g : Nat → Option α} {r : α} (h : Ev (fun k => g (k + 1)) r) : Ev g r := Ev.step (fun _ => rfl) h
theorem pos {c : Prop} [Decidable c] {f g : Nat → Option α} {r : α} (h : c) (k : Ev f r) : Ev (fun n => if c then f n else g n) r := by
  simp only [if_pos h]
  exact k
theorem neg {c : Prop} [Decidable c] {f g : Nat → Option α} {r : α} (h : ¬ c) (k : Ev g r) : Ev (fun n => if c then f n else g n) r := by
  simp only [if_neg h]
  exact k
theorem mk {g : Nat → Option α} {r : α} (h : ∀ k, g k = some r) : Ev g r := ⟨0, fun k _ => h k⟩
end
theorem w64 {x : Int} (h0 : -9223372036854775808 ≤ x) (h1 : x ≤ 9223372036854775807) : wrap64 x = x := by unfold wrap64; omega
theorem rd_eq (xs : List Int) (i : Int) : rd xs i = xs.getD i.toNat 0 := rfl
end Go.Proofs.Ytkgdpgoianimjaa.U
/- UTF-8 on lists, over the model's own decoder: what is encoded is decoded again; every text is the encodings of code points, and then ends or goes wrong; in one way alone. No program in sight. -/
namespace Go.Proofs.Ytkgdpgoianimjaa.Utf
open Go.Lib
set_option linter.unusedVariables false
set_option linter.unusedSimpArgs false

def encAll (l : List Int) : List UInt8 := (l.map Lib.encodeRune).flatten
theorem encAll_nil : encAll [] = [] := rfl
theorem encAll_cons (x : Int) (l : List Int) : encAll (x :: l) = encodeRune x ++ encAll l := by simp [encAll]
theorem encAll_snoc (l : List Int) (x : Int) : encAll (l ++ [x]) = encAll l ++ Lib.encodeRune x := by simp [encAll]

theorem ok_iff (r : Int) : Lib.validRune r = true ↔ (0 ≤ r ∧ r < 55296) ∨ (57343 < r ∧ r ≤ 1114111) := by
  unfold Lib.validRune
  rw [decide_eq_true_iff]
theorem byte_nat (z : Int) (h0 : 0 ≤ z) (h1 : z < 256) : (z.toNat.toUInt8).toNat = z.toNat := by
  simp only [Nat.toUInt8, UInt8.toNat_ofNat']
  omega
theorem enc_len (r : Int) : 1 ≤ (encodeRune r).length ∧ (encodeRune r).length ≤ 4 := by
  have := encodeRuneZ_length r
  unfold encodeRune
  simpa using this
theorem enc_ne (r : Int) : encodeRune r ≠ [] := by
  intro h
  have := (enc_len r).1
  rw [h] at this
  simp at this

set_option maxHeartbeats 2000000 in
theorem dec_enc (r : Int) (h : Lib.validRune r = true) (t : List UInt8) : decodeL (encodeRune r ++ t) = (r.toNat, (encodeRune r).length) := by
  rw [ok_iff] at h
  rw [decodeL_N]
  unfold encodeRune
  by_cases h1 : r ≤ 127
  · rw [encodeRuneZ_one (by omega) h1]
    simp only [List.map_cons, List.map_nil, List.cons_append, List.nil_append, List.getD_cons_zero, List.getD_cons_succ, List.length_cons, List.length_nil]
    rw [byte_nat r (by omega) (by omega)]
    unfold decodeN
    rw [if_pos (by omega)]
  by_cases h2 : r ≤ 2047
  · rw [encodeRuneZ_two (by omega) h2]
    simp only [List.map_cons, List.map_nil, List.cons_append, List.nil_append, List.getD_cons_zero, List.getD_cons_succ, List.length_cons, List.length_nil]
    rw [byte_nat (192 + r / 64) (by omega) (by omega), byte_nat (128 + r % 64) (by omega) (by omega)]
    unfold decodeN
    rw [if_neg (by omega), if_pos (by omega), if_pos (by omega)]
    apply Prod.ext <;> simp only <;> omega
  by_cases h3 : r ≤ 65535
  · rw [encodeRuneZ_three (by omega)]
    simp only [List.map_cons, List.map_nil, List.cons_append, List.nil_append, List.getD_cons_zero, List.getD_cons_succ, List.length_cons, List.length_nil]
    rw [byte_nat (224 + r / 4096) (by omega) (by omega), byte_nat (128 + r / 64 % 64) (by omega) (by omega), byte_nat (128 + r % 64) (by omega) (by omega)]
    unfold decodeN
    rw [if_neg (by omega), if_neg (by omega), if_pos (by omega), if_pos (by omega)]
    apply Prod.ext <;> simp only <;> omega
  · rw [encodeRuneZ_four (by omega) (by omega)]
    simp only [List.map_cons, List.map_nil, List.cons_append, List.nil_append, List.getD_cons_zero, List.getD_cons_succ, List.length_cons, List.length_nil]
    rw [byte_nat (240 + r / 262144) (by omega) (by omega), byte_nat (128 + r / 4096 % 64) (by omega) (by omega), byte_nat (128 + r / 64 % 64) (by omega) (by omega), byte_nat (128 + r % 64) (by omega) (by omega)]
    unfold decodeN
    rw [if_neg (by omega), if_neg (by omega), if_neg (by omega), if_pos (by omega), if_pos (by omega)]
    apply Prod.ext <;> simp only <;> omega

/-- A text goes wrong at its begin. -/
def Bad (l : List UInt8) : Prop := decodeL l = (65533, 1)
theorem enc_not_bad (r : Int) (h : Lib.validRune r = true) (t : List UInt8) : ¬ Bad (encodeRune r ++ t) := by
  intro hb
  unfold Bad at hb
  rw [dec_enc r h t] at hb
  have h1 : r.toNat = 65533 := congrArg Prod.fst hb
  have h2 : (encodeRune r).length = 1 := congrArg Prod.snd hb
  have h3 : r = 65533 := by omega
  subst h3
  revert h2
  decide
theorem dec_cases (l : List UInt8) (hne : l ≠ []) : Bad l ∨ ∃ r, Lib.validRune r = true ∧ decodeL l = (r.toNat, (encodeRune r).length) ∧ l = encodeRune r ++ l.drop (encodeRune r).length := by
  by_cases hb : Bad l
  · exact .inl hb
  · right
    have hv : ¬ ((decodeL l).1 = 65533 ∧ (decodeL l).2 = 1) := fun h => hb (Prod.ext h.1 h.2)
    have he := encode_decode l hne hv
    have hval : Lib.validRune ((decodeL l).1 : Int) = true ∧ (decodeL l).2 ≤ l.length := by
      rw [ok_iff]
      have hl : 0 < l.length := List.length_pos_iff.2 hne
      have k0 := (l.getD 0 0).toNat_lt
      have k1 := (l.getD 1 0).toNat_lt
      have k2 := (l.getD 2 0).toNat_lt
      have k3 := (l.getD 3 0).toNat_lt
      rw [decodeL_N] at hv ⊢
      rcases decodeN_shape l.length (l.getD 0 0).toNat (l.getD 1 0).toNat (l.getD 2 0).toNat (l.getD 3 0).toNat with ⟨c, e⟩ | ⟨c1, c2, c3, cv, e⟩ | ⟨c1, c2, c3, c4, cv, cs, e⟩ | ⟨c1, c2, c3, c4, c5, cv, cw, e⟩ | e
      · rw [e]; dsimp only; omega
      · rw [e]; dsimp only; omega
      · rw [e]; dsimp only; omega
      · rw [e]; dsimp only; omega
      · rw [e] at hv; exact absurd ⟨rfl, rfl⟩ hv
    have hlen : (encodeRune ((decodeL l).1 : Int)).length = (decodeL l).2 := by rw [he, List.length_take]; omega
    refine ⟨((decodeL l).1 : Int), hval.1, ?_, ?_⟩
    · rw [hlen, Int.toNat_natCast]
    · rw [hlen, he, List.take_append_drop]

def All (rs : List Int) : Prop := ∀ r ∈ rs, Lib.validRune r = true
/-- A text: encodings of code points, and then its end, or what is wrong. -/
def TextForm (l : List UInt8) (rs : List Int) (rest : List UInt8) : Prop := All rs ∧ l = encAll rs ++ rest ∧ (rest = [] ∨ Bad rest)
theorem form_ex : ∀ (n : Nat) (l : List UInt8), l.length ≤ n → ∃ rs rest, TextForm l rs rest
  | 0, l, h => ⟨[], [], ⟨(fun _ h => by cases h), by rw [List.eq_nil_of_length_eq_zero (by omega : l.length = 0)]; rfl, .inl rfl⟩⟩
  | n + 1, l, h => by
    by_cases hne : l = []
    · exact ⟨[], [], ⟨(fun _ h => by cases h), by rw [hne]; rfl, .inl rfl⟩⟩
    rcases dec_cases l hne with hb | ⟨r, hr, _, he⟩
    · exact ⟨[], l, ⟨(fun _ h => by cases h), by simp [encAll], .inr hb⟩⟩
    · have h1 := (enc_len r).1
      obtain ⟨rs, rest, ha, hf, hr2⟩ := form_ex n (l.drop (encodeRune r).length) (by rw [List.length_drop]; omega)
      refine ⟨r :: rs, rest, ⟨fun x hx => ?_, ?_, hr2⟩⟩
      · rcases List.mem_cons.1 hx with rfl | hx
        · exact hr
        · exact ha x hx
      · rw [encAll_cons, List.append_assoc, ← hf]; exact he
theorem form (l : List UInt8) : ∃ rs rest, TextForm l rs rest := form_ex l.length l (Nat.le_refl _)
/-! ### what is cut inside a code point -/
end Go.Proofs.Ytkgdpgoianimjaa.Utf
