/- Commands as lines, on lists of bytes: words, decimals, hexadecimal digits, and back. No program in sight. -/
import Derived.Lib.ItoaNum
import Derived.Lib.AtoiAll
import Derived.Lib.Join
import Derived.Lib.AtoiAllCases
namespace Go.Proofs.YtegndehoiodjeaaDoor.Q
open Go.Lib
set_option linter.unusedVariables false
set_option linter.unusedSimpArgs false

/-! ### words -/
/-- A text, cut at each c. -/
def splitC (c : UInt8) : List UInt8 → List (List UInt8)
  | [] => [[]]
  | b :: r => if b = c then [] :: splitC c r else match splitC c r with
    | [] => [[b]]
    | h :: t => (b :: h) :: t
theorem splitC_ne (c : UInt8) (s : List UInt8) : splitC c s ≠ [] := by
  cases s with
  | nil => simp [splitC]
  | cons b r =>
    simp only [splitC]
    split
    · simp
    · split <;> simp
theorem splitC_free (c : UInt8) : ∀ (w : List UInt8), (∀ b ∈ w, b ≠ c) → splitC c w = [w]
  | [], _ => rfl
  | b :: r, h => by
    simp only [splitC]
    rw [if_neg (h b (by simp)), splitC_free c r (fun x hx => h x (by simp [hx]))]
theorem splitC_app (c : UInt8) : ∀ (w s : List UInt8), (∀ b ∈ w, b ≠ c) → splitC c (w ++ c :: s) = w :: splitC c s
  | [], s, _ => by simp [splitC]
  | b :: r, s, h => by
    simp only [List.cons_append, splitC]
    rw [if_neg (h b (by simp)), splitC_app c r s (fun x hx => h x (by simp [hx]))]
theorem split_join (c : UInt8) : ∀ (ws : List (List UInt8)), ws ≠ [] → (∀ w ∈ ws, ∀ b ∈ w, b ≠ c) → splitC c (join ws [c]) = ws
  | [], h, _ => absurd rfl h
  | [w], _, h => by
    rw [join_one]
    exact splitC_free c w (h w (by simp))
  | w :: v :: t, _, h => by
    have e : join (w :: v :: t) [c] = w ++ c :: join (v :: t) [c] := by
      rw [join_cons, join_cons]
      simp [joinTail]
    rw [e, splitC_app c w _ (h w (by simp)), split_join c (v :: t) (by simp) (fun x hx => h x (by simp [hx]))]
theorem join_split (c : UInt8) : ∀ (s : List UInt8), join (splitC c s) [c] = s
  | [] => by simp [splitC, join_one]
  | b :: r => by
    have ih := join_split c r
    simp only [splitC]
    split
    · rename_i hb
      subst hb
      obtain ⟨h, t, hs⟩ := List.exists_cons_of_ne_nil (splitC_ne b r)
      rw [hs] at ih ⊢
      rw [join_cons] at ih ⊢
      simp [joinTail] at ih ⊢
      exact ih
    · obtain ⟨h, t, hs⟩ := List.exists_cons_of_ne_nil (splitC_ne c r)
      rw [hs] at ih ⊢
      rw [join_cons] at ih ⊢
      simp only [List.cons_append]
      rw [ih]
theorem splitC_mem (c : UInt8) : ∀ (s : List UInt8), ∀ w ∈ splitC c s, ∀ b ∈ w, b ≠ c
  | [], w, hw, b, hb => by
    have : w = [] := by simpa [splitC] using hw
    rw [this] at hb; cases hb
  | x :: r, w, hw, b, hb => by
    have ih := splitC_mem c r
    simp only [splitC] at hw
    split at hw
    · rcases List.mem_cons.1 hw with rfl | hw
      · cases hb
      · exact ih w hw b hb
    · rename_i hx
      obtain ⟨h, t, hs⟩ := List.exists_cons_of_ne_nil (splitC_ne c r)
      rw [hs] at hw ih
      rcases List.mem_cons.1 hw with rfl | hw
      · rcases List.mem_cons.1 hb with rfl | hb
        · exact hx
        · exact ih h (by simp) b hb
      · exact ih w (by simp [hw]) b hb

/-! ### hexadecimal digits -/
def hexD : List UInt8 := [48, 49, 50, 51, 52, 53, 54, 55, 56, 57, 97, 98, 99, 100, 101, 102]
def hd (k : Nat) : UInt8 := hexD.getD k 0
/-- A digit's value. -/
def hv (b : UInt8) : Option Nat := if 48 ≤ b.toNat ∧ b.toNat ≤ 57 then some (b.toNat - 48) else if 97 ≤ b.toNat ∧ b.toNat ≤ 102 then some (b.toNat - 87) else none
def hexL : List UInt8 → List UInt8
  | [] => []
  | b :: r => hd (b.toNat / 16) :: hd (b.toNat % 16) :: hexL r
def unhexL : List UInt8 → Option (List UInt8)
  | [] => some []
  | [_] => none
  | a :: b :: r => (hv a).bind fun x => (hv b).bind fun y => (unhexL r).map fun t => UInt8.ofNat (x * 16 + y) :: t
theorem hd_hv : ∀ k : Fin 16, hv (hd k.1) = some k.1 := by decide +kernel
theorem hv_hd : ∀ b : Fin 256, ∀ k, hv (UInt8.ofNat b.1) = some k → k < 16 ∧ hd k = UInt8.ofNat b.1 := by
  intro b k h
  have h2 : ∀ b : Fin 256, (match hv (UInt8.ofNat b.1) with | none => true | some k => decide (k < 16 ∧ hd k = UInt8.ofNat b.1)) = true := by decide +kernel
  have := h2 b
  rw [h] at this
  exact of_decide_eq_true this
theorem hv_some (b : UInt8) (k : Nat) (h : hv b = some k) : k < 16 ∧ hd k = b := by
  have := hv_hd ⟨b.toNat, b.toNat_lt⟩ k
  rw [show UInt8.ofNat b.toNat = b from UInt8.ofNat_toNat] at this
  exact this h
theorem hd_none : ∀ k : Fin 16, hd k.1 ≠ 32 ∧ hd k.1 ≠ 10 := by decide +kernel
theorem unhex_hex : ∀ (t : List UInt8), unhexL (hexL t) = some t
  | [] => rfl
  | b :: r => by
    have hb := b.toNat_lt
    simp only [hexL, unhexL]
    rw [hd_hv ⟨b.toNat / 16, by omega⟩, hd_hv ⟨b.toNat % 16, by omega⟩, unhex_hex r]
    simp only [Option.bind_some, Option.map_some]
    rw [show b.toNat / 16 * 16 + b.toNat % 16 = b.toNat by omega, UInt8.ofNat_toNat]
theorem hex_unhex : ∀ (s t : List UInt8), unhexL s = some t → s = hexL t
  | [], t, h => by
    have : [] = t := by simpa [unhexL] using h
    rw [← this]; rfl
  | [_], t, h => by simp [unhexL] at h
  | a :: b :: r, t, h => by
    simp only [unhexL] at h
    cases ha : hv a with
    | none => rw [ha] at h; cases h
    | some x =>
      cases hb : hv b with
      | none => rw [ha, hb] at h; cases h
      | some y =>
        rw [ha, hb] at h
        simp only [Option.bind_some] at h
        cases hr : unhexL r with
        | none => rw [hr] at h; cases h
        | some u =>
          rw [hr] at h
          simp only [Option.map_some, Option.some.injEq] at h
          have h1 := hv_some a x ha
          have h2 := hv_some b y hb
          rw [← h]
          simp only [hexL]
          rw [show (UInt8.ofNat (x * 16 + y)).toNat = x * 16 + y by rw [UInt8.toNat_ofNat']; omega, show (x * 16 + y) / 16 = x by omega, show (x * 16 + y) % 16 = y by omega, h1.2, h2.2, ← hex_unhex r u hr]
theorem hexL_len (t : List UInt8) : (hexL t).length = 2 * t.length := by
  induction t with
  | nil => rfl
  | cons b r ih => simp only [hexL, List.length_cons, ih]; omega
theorem hexL_clean : ∀ (t : List UInt8), ∀ b ∈ hexL t, b ≠ 32 ∧ b ≠ 10
  | [], b, h => by cases h
  | x :: r, b, h => by
    have hx := x.toNat_lt
    simp only [hexL, List.mem_cons] at h
    rcases h with rfl | rfl | h
    · exact hd_none ⟨x.toNat / 16, by omega⟩
    · exact hd_none ⟨x.toNat % 16, by omega⟩
    · exact hexL_clean r b h

/-! ### decimals -/
/-- Digits' value, behind a value. -/
def valF (acc : Nat) (l : List UInt8) : Nat := l.foldl (fun a b => a * 10 + (b.toNat - 48)) acc
def isD (b : UInt8) : Bool := decide (48 ≤ b.toNat ∧ b.toNat ≤ 57)
theorem decDigits_all (u : Nat) : (decDigits u).all isD = true := by
  induction u using Nat.strongRecOn with
  | _ u ih =>
    by_cases h : u < 10
    · rw [decDigits, dif_pos h]
      simp only [List.all_cons, List.all_nil, Bool.and_true]
      unfold isD
      rw [UInt8.toNat_ofNat']
      exact decide_eq_true (by omega)
    · rw [decDigits, dif_neg h, List.all_append, ih (u / 10) (by omega)]
      simp only [List.all_cons, List.all_nil, Bool.and_true, Bool.true_and]
      unfold isD
      rw [UInt8.toNat_ofNat']
      exact decide_eq_true (by omega)
theorem valF_app (acc : Nat) (l m : List UInt8) : valF acc (l ++ m) = valF (valF acc l) m := by simp [valF]
theorem val_dec (u : Nat) : valF 0 (decDigits u) = u := by
  induction u using Nat.strongRecOn with
  | _ u ih =>
    by_cases h : u < 10
    · rw [decDigits, dif_pos h]
      simp only [valF, List.foldl_cons, List.foldl_nil]
      rw [UInt8.toNat_ofNat']
      omega
    · rw [decDigits, dif_neg h, valF_app, ih (u / 10) (by omega)]
      simp only [valF, List.foldl_cons, List.foldl_nil]
      rw [UInt8.toNat_ofNat']
      omega
theorem decDigits_ne (u : Nat) : decDigits u ≠ [] := by
  rw [decDigits]
  split <;> simp
theorem dec_head (u : Nat) (h0 : u ≠ 0) : (decDigits u).head? ≠ some 48 := by
  induction u using Nat.strongRecOn with
  | _ u ih =>
    by_cases h : u < 10
    · rw [decDigits, dif_pos h]
      simp only [List.head?_cons, ne_eq, Option.some.injEq]
      intro e
      have := congrArg UInt8.toNat e
      rw [UInt8.toNat_ofNat'] at this
      have h48 : (48 : UInt8).toNat = 48 := rfl
      omega
    · rw [decDigits, dif_neg h]
      have := ih (u / 10) (by omega) (by omega)
      obtain ⟨a, t, ht⟩ := List.exists_cons_of_ne_nil (decDigits_ne (u / 10))
      rw [ht] at this ⊢
      simpa using this
theorem dec_zero : decDigits 0 = [48] := by rw [decDigits]; rfl
/-- A row of digits without a nought ahead is its value's numeral. -/
theorem dec_val : ∀ (n : Nat) (l : List UInt8), l.length = n → l ≠ [] → l.all isD = true → (l.head? = some 48 → l = [48]) → decDigits (valF 0 l) = l
  | 0, l, hn, hl, _, _ => absurd (List.eq_nil_of_length_eq_zero hn) hl
  | n + 1, l, hn, hl, hd, hh => by
    obtain ⟨m, b, rfl⟩ : ∃ m b, l = m ++ [b] := ⟨l.dropLast, l.getLast hl, (List.dropLast_concat_getLast hl).symm⟩
    rw [List.all_append] at hd
    have hdb : isD b = true := by
      have := (Bool.and_eq_true _ _ ▸ hd).2
      simpa using this
    have hdm : m.all isD = true := (Bool.and_eq_true _ _ ▸ hd).1
    have hb := of_decide_eq_true hdb
    have hbn : (UInt8.ofNat b.toNat) = b := UInt8.ofNat_toNat
    rw [valF_app]
    have e1 : valF (valF 0 m) [b] = valF 0 m * 10 + (b.toNat - 48) := rfl
    rw [e1]
    by_cases hm : m = []
    · subst hm
      have e0 : valF 0 ([] : List UInt8) = 0 := rfl
      rw [e0, decDigits, dif_pos (by omega), show 48 + (0 * 10 + (b.toNat - 48)) = b.toNat by omega, hbn]
      rfl
    · have hm48 : m.head? ≠ some 48 := fun e => by
        have : (m ++ [b]).head? = some 48 := by
          obtain ⟨a, t, ht⟩ := List.exists_cons_of_ne_nil hm
          rw [ht] at e ⊢
          simpa using e
        have := congrArg List.length (hh this)
        simp at this
        exact hm this
      have ih := dec_val n m (by simpa using hn) hm hdm (fun e => absurd e hm48)
      have hv0 : valF 0 m ≠ 0 := fun e => by
        rw [e, dec_zero] at ih
        rw [← ih] at hm48
        exact hm48 rfl
      rw [decDigits, dif_neg (by omega), show (valF 0 m * 10 + (b.toNat - 48)) / 10 = valF 0 m by omega, ih, show 48 + (valF 0 m * 10 + (b.toNat - 48)) % 10 = b.toNat by omega, hbn]
theorem dec_len : ∀ (k u : Nat), u < 10 ^ (k + 1) → (decDigits u).length ≤ k + 1
  | 0, u, h => by
    rw [decDigits, dif_pos (by simpa using h)]
    simp
  | k + 1, u, h => by
    by_cases h1 : u < 10
    · rw [decDigits, dif_pos h1]
      simp
    · rw [decDigits, dif_neg h1, List.length_append]
      have := dec_len k (u / 10) (by rw [Nat.pow_succ] at h; omega)
      simp only [List.length_cons, List.length_nil]
      omega
theorem valF_ge : ∀ (l : List UInt8) (acc : Nat), acc ≤ valF acc l
  | [], acc => Nat.le_refl _
  | b :: r, acc => by
    have := valF_ge r (acc * 10 + (b.toNat - 48))
    have e : valF acc (b :: r) = valF (acc * 10 + (b.toNat - 48)) r := rfl
    rw [e]
    omega
theorem parse_val : ∀ (l : List UInt8) (acc : Nat), l.all isD = true → valF acc l < 18446744073709551616 → parseUint10 acc l = .ok (valF acc l)
  | [], acc, _, _ => rfl
  | b :: r, acc, hd, hv => by
    rw [List.all_cons, Bool.and_eq_true] at hd
    have hb := of_decide_eq_true hd.1
    have e : valF acc (b :: r) = valF (acc * 10 + (b.toNat - 48)) r := rfl
    rw [e] at hv ⊢
    have hg := valF_ge r (acc * 10 + (b.toNat - 48))
    simp only [parseUint10]
    rw [if_pos hb, if_neg (by omega), if_neg (by omega)]
    exact parse_val r _ hd.2 hv
theorem isD_range (b : UInt8) (h : isD b = true) : 48 ≤ b.toNat ∧ b.toNat ≤ 57 := of_decide_eq_true h
theorem head_dec (u : Nat) : ∃ b t, decDigits u = b :: t ∧ isD b = true := by
  obtain ⟨b, t, h⟩ := List.exists_cons_of_ne_nil (decDigits_ne u)
  have := decDigits_all u
  rw [h, List.all_cons, Bool.and_eq_true] at this
  exact ⟨b, t, h, this.1⟩
/-- Atoi of a numeral. -/
theorem atoi_itoa (n : Int) (h0 : -9223372036854775808 ≤ n) (h1 : n ≤ 9223372036854775807) : atoiAll (itoa n) = .ok n := by
  unfold itoa
  by_cases hn : n < 0
  · rw [if_pos hn]
    simp only [atoiAll]
    have hp : parseMag (decDigits n.natAbs) = .ok n.natAbs := by
      unfold parseMag
      rw [if_neg (decDigits_ne _), parse_val _ _ (decDigits_all _) (by rw [val_dec]; omega), val_dec]
    rw [if_pos (.inr rfl), hp]
    simp only
    rw [if_neg (fun h => h.1 rfl), if_neg (by omega), if_pos (show UInt8.toNat 45 = 45 from rfl)]
    congr 1
    omega
  · rw [if_neg hn]
    obtain ⟨b, t, hb, hd⟩ := head_dec n.toNat
    have hr := isD_range b hd
    rw [hb]
    simp only [atoiAll]
    have hp : parseMag (b :: t) = .ok n.toNat := by
      rw [← hb]
      unfold parseMag
      rw [if_neg (decDigits_ne _), parse_val _ _ (decDigits_all _) (by rw [val_dec]; omega), val_dec]
    rw [if_neg (by omega), hp]
    simp only
    rw [if_neg (by omega), if_neg (fun h => by omega), if_neg (by omega)]
    congr 1
    omega
/-- A number's text, as the reference reads it: no other text is one. -/
def numL (s : List UInt8) : Option Int :=
  if s.head? = some 45 then
    (if s.tail ≠ [] ∧ s.tail.length ≤ 19 ∧ s.tail.head? ≠ some 48 ∧ s.tail.all isD = true ∧ valF 0 s.tail ≤ 9223372036854775808 then some (-(valF 0 s.tail : Int)) else none)
  else if s ≠ [] ∧ s.length ≤ 19 ∧ (s.head? = some 48 → s = [48]) ∧ s.all isD = true ∧ valF 0 s ≤ 9223372036854775807 then some (valF 0 s : Int) else none
theorem num_itoa (n : Int) (h0 : -9223372036854775808 ≤ n) (h1 : n ≤ 9223372036854775807) : numL (itoa n) = some n := by
  unfold itoa
  by_cases hn : n < 0
  · rw [if_pos hn]
    unfold numL
    rw [if_pos (show (45 :: decDigits n.natAbs).head? = some 45 from rfl), List.tail_cons, if_pos ⟨decDigits_ne _, dec_len 18 _ (by omega), dec_head _ (by omega), decDigits_all _, by rw [val_dec]; omega⟩, val_dec]
    congr 1
    omega
  · rw [if_neg hn]
    obtain ⟨b, t, hb, hd⟩ := head_dec n.toNat
    have hr := isD_range b hd
    have hne : ¬ (decDigits n.toNat).head? = some 45 := by
      rw [hb]
      intro e
      have : b = 45 := by simpa using e
      rw [this] at hr
      revert hr
      decide
    have h48 : (decDigits n.toNat).head? = some 48 → decDigits n.toNat = [48] := fun e => by
      by_cases hz : n.toNat = 0
      · rw [hz]; exact dec_zero
      · exact absurd e (dec_head _ hz)
    unfold numL
    rw [if_neg hne, if_pos ⟨decDigits_ne _, dec_len 18 _ (by omega), h48, decDigits_all _, by rw [val_dec]; omega⟩, val_dec]
    congr 1
    omega
theorem num_some (s : List UInt8) (n : Int) (h : numL s = some n) : s = itoa n ∧ -9223372036854775808 ≤ n ∧ n ≤ 9223372036854775807 := by
  unfold numL at h
  by_cases hh : s.head? = some 45
  · rw [if_pos hh] at h
    split at h
    · rename_i hc
      obtain ⟨c1, c2, c3, c4, c5⟩ := hc
      have hn := Option.some.inj h
      obtain ⟨b, t, rfl⟩ : ∃ b t, s = b :: t := by
        cases s with
        | nil => cases hh
        | cons b t => exact ⟨b, t, rfl⟩
      have hb : b = 45 := by simpa using hh
      rw [List.tail_cons] at hn c1 c2 c3 c4 c5
      have hv := dec_val _ t rfl c1 c4 (fun e => absurd e c3)
      have hpos : valF 0 t ≠ 0 := fun e => by
        rw [e, dec_zero] at hv
        rw [← hv] at c3
        exact c3 rfl
      refine ⟨?_, by omega, by omega⟩
      unfold itoa
      rw [if_pos (by omega), hb, show n.natAbs = valF 0 t by omega, hv]
    · cases h
  · rw [if_neg hh] at h
    split at h
    · rename_i hc
      obtain ⟨c1, c2, c3, c4, c5⟩ := hc
      have hn := Option.some.inj h
      refine ⟨?_, by omega, by omega⟩
      unfold itoa
      rw [if_neg (by omega), show n.toNat = valF 0 s by omega, dec_val _ s rfl c1 c4 c3]
    · cases h
theorem itoa_clean (n : Int) : ∀ b ∈ itoa n, b ≠ 32 ∧ b ≠ 10 := by
  have dg : ∀ u, ∀ b ∈ decDigits u, b ≠ 32 ∧ b ≠ 10 := fun u b hb => by
    have := isD_range b (List.all_eq_true.1 (decDigits_all u) b hb)
    constructor
    · rintro rfl; revert this; decide
    · rintro rfl; revert this; decide
  intro b hb
  unfold itoa at hb
  split at hb
  · rcases List.mem_cons.1 hb with rfl | hb
    · decide
    · exact dg _ b hb
  · exact dg _ b hb

/-! ### commands -/
/-- A command: four numbers, whether it is below nought, its texts. -/
structure Cm where
  k : Int
  m : Int
  z : Int
  e : Int
  neg : Bool
  ts : List (List UInt8)
def inR (n : Int) : Prop := -9223372036854775808 ≤ n ∧ n ≤ 9223372036854775807
def Cm.ok (c : Cm) : Prop := inR c.k ∧ inR c.m ∧ (-2147483648 ≤ c.z ∧ c.z ≤ 2147483647) ∧ inR c.e ∧ c.ts.length = 11
def bitL (b : Bool) : List UInt8 := if b = true then [49] else [48]
def textW (t : List UInt8) : List UInt8 := 120 :: hexL t
/-- Its words. -/
def lineW (c : Cm) : List (List UInt8) := [itoa c.k, itoa c.m, itoa c.z, itoa c.e, bitL c.neg] ++ c.ts.map textW
/-- Its line, without the end. -/
def lineL (c : Cm) : List UInt8 := join (lineW c) [32]
/-- A text behind its x. -/
def bytesX (w : List UInt8) : Option (List UInt8) := if w.head? = some 120 then unhexL w.tail else none
def allSome {α : Type} : List (Option α) → Option (List α)
  | [] => some []
  | o :: r => o.bind fun a => (allSome r).map fun t => a :: t
theorem allSome_map {α β : Type} (f : β → Option α) (g : α → β) (h : ∀ a, f (g a) = some a) (l : List α) : allSome ((l.map g).map f) = some l := by
  induction l with
  | nil => rfl
  | cons a t ih => simp only [List.map_cons, allSome, h, ih]; rfl
theorem allSome_inv {α β : Type} (f : β → Option α) (g : α → β) (h : ∀ b a, f b = some a → b = g a) : ∀ (l : List β) (r : List α), allSome (l.map f) = some r → l = r.map g
  | [], r, hs => by
    have : [] = r := by simpa [allSome] using hs
    rw [← this]; rfl
  | b :: t, r, hs => by
    simp only [List.map_cons, allSome] at hs
    cases hb : f b with
    | none => rw [hb] at hs; cases hs
    | some a =>
      rw [hb] at hs
      simp only [Option.bind_some] at hs
      cases ht : allSome (t.map f) with
      | none => rw [ht] at hs; cases hs
      | some u =>
        rw [ht] at hs
        have : a :: u = r := by simpa using hs
        rw [← this, List.map_cons, ← h b a hb, ← allSome_inv f g h t u ht]
theorem bytes_text (t : List UInt8) : bytesX (textW t) = some t := by
  unfold bytesX textW
  rw [if_pos (show (120 :: hexL t).head? = some 120 from rfl), List.tail_cons, unhex_hex]
theorem text_bytes (w t : List UInt8) (h : bytesX w = some t) : w = textW t := by
  unfold bytesX at h
  split at h
  · rename_i hh
    cases w with
    | nil => cases hh
    | cons b r =>
      have hb : b = 120 := by simpa using hh
      unfold textW
      rw [hb, hex_unhex r t h]
  · cases h
/-- The reference's reading of words. -/
def readW (ws : List (List UInt8)) : Option Cm :=
  if ws.length = 16 ∧ (ws.getD 4 [] = [48] ∨ ws.getD 4 [] = [49]) then
    (numL (ws.getD 0 [])).bind fun k => (numL (ws.getD 1 [])).bind fun m => (numL (ws.getD 2 [])).bind fun z => (numL (ws.getD 3 [])).bind fun e => (allSome ((ws.drop 5).map bytesX)).bind fun ts =>
      if -2147483648 ≤ z ∧ z ≤ 2147483647 then some ⟨k, m, z, e, decide (ws.getD 4 [] = [49]), ts⟩ else none
  else none
theorem read_line (c : Cm) (h : c.ok) : readW (lineW c) = some c := by
  obtain ⟨hk, hm, hz, he, hl⟩ := h
  obtain ⟨k, m, z, e, neg, ts⟩ := c
  simp only at hk hm hz he hl
  have hlen : (lineW ⟨k, m, z, e, neg, ts⟩).length = 16 := by simp [lineW, hl]
  have hb : (lineW ⟨k, m, z, e, neg, ts⟩).getD 4 [] = bitL neg := rfl
  unfold readW
  rw [if_pos ⟨hlen, by rw [hb]; cases neg <;> simp [bitL]⟩, hb]
  have h0 : (lineW ⟨k, m, z, e, neg, ts⟩).getD 0 [] = itoa k := rfl
  have h1 : (lineW ⟨k, m, z, e, neg, ts⟩).getD 1 [] = itoa m := rfl
  have h2 : (lineW ⟨k, m, z, e, neg, ts⟩).getD 2 [] = itoa z := rfl
  have h3 : (lineW ⟨k, m, z, e, neg, ts⟩).getD 3 [] = itoa e := rfl
  have h5 : (lineW ⟨k, m, z, e, neg, ts⟩).drop 5 = ts.map textW := rfl
  rw [h0, h1, h2, h3, h5, num_itoa k hk.1 hk.2, num_itoa m hm.1 hm.2, num_itoa z (by omega) (by omega), num_itoa e he.1 he.2, allSome_map bytesX textW bytes_text]
  simp only [Option.bind_some]
  rw [if_pos hz]
  cases neg <;> rfl
theorem read_some (ws : List (List UInt8)) (c : Cm) (h : readW ws = some c) : ws = lineW c ∧ c.ok := by
  unfold readW at h
  split at h
  · rename_i hc
    obtain ⟨hl, h4⟩ := hc
    match ws, hl with
    | w0 :: w1 :: w2 :: w3 :: w4 :: r, hl =>
      have hr : r.length = 11 := by simpa using hl
      simp only [List.getD_cons_zero, List.getD_cons_succ, List.drop_succ_cons, List.drop_zero] at h h4
      cases h0 : numL w0 with
      | none => rw [h0] at h; cases h
      | some k =>
      cases h1 : numL w1 with
      | none => rw [h0, h1] at h; cases h
      | some m =>
      cases h2 : numL w2 with
      | none => rw [h0, h1, h2] at h; cases h
      | some z =>
      cases h3 : numL w3 with
      | none => rw [h0, h1, h2, h3] at h; cases h
      | some e =>
      cases h5 : allSome (r.map bytesX) with
      | none => rw [h0, h1, h2, h3, h5] at h; cases h
      | some ts =>
        rw [h0, h1, h2, h3, h5] at h
        simp only [Option.bind_some] at h
        split at h
        · rename_i hz
          have hcc := Option.some.inj h
          have i0 := num_some w0 k h0
          have i1 := num_some w1 m h1
          have i2 := num_some w2 z h2
          have i3 := num_some w3 e h3
          have i5 := allSome_inv bytesX textW text_bytes r ts h5
          have htl : ts.length = 11 := by rw [i5, List.length_map] at hr; exact hr
          rw [← hcc]
          refine ⟨?_, i0.2, i1.2, hz, i3.2, htl⟩
          unfold lineW
          have hb : w4 = bitL (decide (w4 = [49])) := by
            rcases h4 with h4 | h4 <;> rw [h4] <;> rfl
          rw [← hb, ← i0.1, ← i1.1, ← i2.1, ← i3.1, ← i5]
          rfl
        · cases h
  · cases h
theorem line_clean (c : Cm) : ∀ w ∈ lineW c, ∀ b ∈ w, b ≠ 32 ∧ b ≠ 10 := by
  intro w hw b hb
  unfold lineW at hw
  rcases List.mem_append.1 hw with hw | hw
  · simp only [List.mem_cons, List.not_mem_nil, or_false] at hw
    rcases hw with rfl | rfl | rfl | rfl | rfl
    · exact itoa_clean _ b hb
    · exact itoa_clean _ b hb
    · exact itoa_clean _ b hb
    · exact itoa_clean _ b hb
    · unfold bitL at hb
      split at hb
      · have : b = 49 := by simpa using hb
        rw [this]; decide
      · have : b = 48 := by simpa using hb
        rw [this]; decide
  · obtain ⟨t, _, rfl⟩ := List.mem_map.1 hw
    unfold textW at hb
    rcases List.mem_cons.1 hb with rfl | hb
    · decide
    · exact hexL_clean t b hb
theorem line_split (c : Cm) : splitC 32 (lineL c) = lineW c := by
  unfold lineL
  exact split_join 32 (lineW c) (by simp [lineW]) (fun w hw b hb => (line_clean c w hw b hb).1)
/-- A line that is read is just the line of what was read; and the other way. -/
theorem read_iff (s : List UInt8) (c : Cm) : readW (splitC 32 s) = some c ↔ s = lineL c ∧ c.ok := by
  constructor
  · intro h
    have := read_some _ c h
    refine ⟨?_, this.2⟩
    unfold lineL
    rw [← this.1, join_split]
  · rintro ⟨rfl, hc⟩
    rw [line_split, read_line c hc]
theorem join_clean (c : UInt8) (ws : List (List UInt8)) (sep : UInt8) (hs : sep ≠ c) (h : ∀ w ∈ ws, ∀ b ∈ w, b ≠ c) : ∀ b ∈ join ws [sep], b ≠ c := by
  cases ws with
  | nil => intro b hb; cases hb
  | cons w r =>
    rw [join_cons]
    intro b hb
    rcases List.mem_append.1 hb with hb | hb
    · exact h w (by simp) b hb
    · unfold joinTail at hb
      rw [List.mem_flatten] at hb
      obtain ⟨l, hl, hb⟩ := hb
      obtain ⟨x, hx, rfl⟩ := List.mem_map.1 hl
      rcases List.mem_append.1 hb with hb | hb
      · rw [List.mem_singleton.1 hb]; exact hs
      · exact h x (by simp [hx]) b hb
theorem lineL_clean (c : Cm) : ∀ b ∈ lineL c, b ≠ 10 := join_clean 10 (lineW c) 32 (by decide) (fun w hw b hb => (line_clean c w hw b hb).2)

/-! ### the program's reading -/
def okOf (x : NumEnd Int) : Option Int := match x with
  | .ok n => some n
  | _ => none
/-- A number as 32 bits. -/
def z32 (z : Int) : Int := (z + 2147483648) % 4294967296 - 2147483648
theorem z32_in (z : Int) (h0 : -2147483648 ≤ z) (h1 : z ≤ 2147483647) : z32 z = z := by unfold z32; omega
theorem z32_range (z : Int) : -2147483648 ≤ z32 z ∧ z32 z ≤ 2147483647 := by unfold z32; omega
/-- What the program makes of words, ahead of its last test. -/
def progP (ws : List (List UInt8)) : Option Cm :=
  if ws.length = 16 then
    (allSome ((ws.drop 5).map bytesX)).bind fun ts => (okOf (atoiAll (ws.getD 0 []))).bind fun k => (okOf (atoiAll (ws.getD 1 []))).bind fun m => (okOf (atoiAll (ws.getD 2 []))).bind fun z => (okOf (atoiAll (ws.getD 3 []))).map fun e =>
      ⟨k, m, z32 z, e, decide (ws.getD 4 [] = [49]), ts⟩
  else none
theorem okOf_range (l : List UInt8) (n : Int) (h : okOf (atoiAll l) = some n) : inR n := by
  unfold okOf at h
  rcases ha : atoiAll l with v | _ | _
  · rw [ha] at h
    have := Option.some.inj h
    have hb := atoiAll_bounds ha
    rw [← this]
    exact hb
  · rw [ha] at h; cases h
  · rw [ha] at h; cases h
theorem allSome_len {α : Type} : ∀ (l : List (Option α)) (r : List α), allSome l = some r → r.length = l.length
  | [], r, h => by
    have : [] = r := by simpa [allSome] using h
    rw [← this]
    rfl
  | o :: t, r, h => by
    simp only [allSome] at h
    cases o with
    | none => cases h
    | some a =>
      simp only [Option.bind_some] at h
      cases ht : allSome t with
      | none => rw [ht] at h; cases h
      | some u =>
        rw [ht] at h
        have e : a :: u = r := by simpa using h
        rw [← e, List.length_cons, List.length_cons, allSome_len t u ht]
theorem prog_ok (ws : List (List UInt8)) (c : Cm) (h : progP ws = some c) : c.ok := by
  unfold progP at h
  split at h
  · rename_i hl
    cases h5 : allSome ((ws.drop 5).map bytesX) with
    | none => rw [h5] at h; cases h
    | some ts =>
    cases h0 : okOf (atoiAll (ws.getD 0 [])) with
    | none => rw [h5, h0] at h; cases h
    | some k =>
    cases h1 : okOf (atoiAll (ws.getD 1 [])) with
    | none => rw [h5, h0, h1] at h; cases h
    | some m =>
    cases h2 : okOf (atoiAll (ws.getD 2 [])) with
    | none => rw [h5, h0, h1, h2] at h; cases h
    | some z =>
    cases h3 : okOf (atoiAll (ws.getD 3 [])) with
    | none => rw [h5, h0, h1, h2, h3] at h; cases h
    | some e =>
      rw [h5, h0, h1, h2, h3] at h
      have hc := Option.some.inj h
      rw [← hc]
      refine ⟨okOf_range _ k h0, okOf_range _ m h1, z32_range z, okOf_range _ e h3, ?_⟩
      have := allSome_len _ ts h5
      simp only
      rw [this, List.length_map, List.length_drop, hl]
  · cases h
theorem prog_line (c : Cm) (h : c.ok) : progP (lineW c) = some c := by
  obtain ⟨hk, hm, hz, he, hl⟩ := h
  obtain ⟨k, m, z, e, neg, ts⟩ := c
  simp only at hk hm hz he hl
  have hlen : (lineW ⟨k, m, z, e, neg, ts⟩).length = 16 := by simp [lineW, hl]
  have hb : (lineW ⟨k, m, z, e, neg, ts⟩).getD 4 [] = bitL neg := rfl
  have h0 : (lineW ⟨k, m, z, e, neg, ts⟩).getD 0 [] = itoa k := rfl
  have h1 : (lineW ⟨k, m, z, e, neg, ts⟩).getD 1 [] = itoa m := rfl
  have h2 : (lineW ⟨k, m, z, e, neg, ts⟩).getD 2 [] = itoa z := rfl
  have h3 : (lineW ⟨k, m, z, e, neg, ts⟩).getD 3 [] = itoa e := rfl
  have h5 : (lineW ⟨k, m, z, e, neg, ts⟩).drop 5 = ts.map textW := rfl
  unfold progP
  rw [if_pos hlen, h0, h1, h2, h3, h5, hb, atoi_itoa k hk.1 hk.2, atoi_itoa m hm.1 hm.2, atoi_itoa z (by omega) (by omega), atoi_itoa e he.1 he.2, allSome_map bytesX textW bytes_text]
  simp only [okOf, Option.bind_some, Option.map_some]
  rw [z32_in z hz.1 hz.2]
  cases neg <;> rfl
/-- What the program reads out of a line: nothing, or a command whose line it is. -/
def progL (s : List UInt8) : Option Cm := (progP (splitC 32 s)).bind fun c => if lineL c = s then some c else none
theorem prog_iff (s : List UInt8) (c : Cm) : progL s = some c ↔ s = lineL c ∧ c.ok := by
  constructor
  · intro h
    unfold progL at h
    cases hp : progP (splitC 32 s) with
    | none => rw [hp] at h; cases h
    | some d =>
      rw [hp] at h
      simp only [Option.bind_some] at h
      split at h
      · rename_i hl
        have := Option.some.inj h
        rw [← this]
        exact ⟨hl.symm, prog_ok _ d hp⟩
      · cases h
  · rintro ⟨rfl, hc⟩
    unfold progL
    rw [line_split, prog_line c hc]
    simp
/-- The program and the reference read the same. -/
theorem prog_read (s : List UInt8) : progL s = readW (splitC 32 s) := by
  cases h : readW (splitC 32 s) with
  | some c => exact (prog_iff s c).2 ((read_iff s c).1 h)
  | none =>
    cases hp : progL s with
    | none => rfl
    | some c =>
      have := (read_iff s c).2 ((prog_iff s c).1 hp)
      rw [h] at this
      cases this

/-! ### texts -/
/-- The commands of lines; what stands behind the last line's end must be nothing. -/
def runL (r : List UInt8 → Option Cm) : List (List UInt8) → Int → List Cm → List Cm × Int × Int
  | [], _, acc => (acc, 0, 0)
  | [p], n, acc => if p = [] then (acc, 0, 0) else ([], n, 16)
  | p :: q :: t, n, acc => match r p with
    | none => ([], n, 16)
    | some c => runL r (q :: t) (n + 1) (acc ++ [c])
/-- What a text says. -/
def readT (s : List UInt8) : List Cm × Int × Int := runL progL (splitC 10 s) 1 []
def textL (l : List Cm) : List UInt8 := (l.map fun c => lineL c ++ [10]).flatten
theorem split_text (l : List Cm) (s : List UInt8) : splitC 10 (textL l ++ s) = l.map lineL ++ splitC 10 s := by
  induction l with
  | nil => rfl
  | cons c t ih =>
    have e : textL (c :: t) ++ s = lineL c ++ 10 :: (textL t ++ s) := by simp [textL]
    rw [e, splitC_app 10 (lineL c) _ (lineL_clean c), ih]
    rfl
theorem run_lines (l : List Cm) (hl : ∀ c ∈ l, c.ok) (q : List UInt8) (t : List (List UInt8)) : ∀ (n : Int) (acc : List Cm), runL progL (l.map lineL ++ q :: t) n acc = runL progL (q :: t) (n + l.length) (acc ++ l) := by
  induction l with
  | nil => intro n acc; simp
  | cons c u ih =>
    intro n acc
    have hc := (prog_iff (lineL c) c).2 ⟨rfl, hl c (by simp)⟩
    have hu : ∀ d ∈ u, d.ok := fun d hd => hl d (by simp [hd])
    have step : runL progL ((c :: u).map lineL ++ q :: t) n acc = runL progL (u.map lineL ++ q :: t) (n + 1) (acc ++ [c]) := by
      obtain ⟨a, b, hab⟩ : ∃ a b, u.map lineL ++ q :: t = a :: b := by
        cases u with
        | nil => exact ⟨q, t, rfl⟩
        | cons d v => exact ⟨lineL d, v.map lineL ++ q :: t, rfl⟩
      rw [List.map_cons, List.cons_append, hab]
      simp only [runL]
      rw [hc]
    rw [step, ih hu (n + 1) (acc ++ [c])]
    congr 1
    · simp; omega
    · simp
/-- Commands come again out of their text. -/
theorem read_text (l : List Cm) (hl : ∀ c ∈ l, c.ok) : readT (textL l) = (l, 0, 0) := by
  have h := split_text l []
  rw [List.append_nil] at h
  unfold readT
  rw [h]
  have e : splitC 10 ([] : List UInt8) = [[]] := rfl
  rw [e, run_lines l hl [] [] 1 []]
  simp [runL]
/-- A text that is read is just the text of what was read. -/
theorem run_back : ∀ (ps : List (List UInt8)) (n : Int) (acc l : List Cm), ps ≠ [] → runL progL ps n acc = (l, 0, 0) → 1 ≤ n → ∃ m, l = acc ++ m ∧ join ps [10] = textL m ∧ ∀ c ∈ m, c.ok
  | [], n, acc, l, h, _, _ => absurd rfl h
  | [p], n, acc, l, _, h, hn => by
    simp only [runL] at h
    split at h
    · rename_i hp
      have := congrArg Prod.fst h
      simp only at this
      exact ⟨[], by rw [List.append_nil]; exact this.symm, by rw [hp, join_one]; rfl, fun c hc => by cases hc⟩
    · have := congrArg (fun x => x.2.2) h
      simp at this
  | p :: q :: t, n, acc, l, _, h, hn => by
    simp only [runL] at h
    cases hp : progL p with
    | none =>
      rw [hp] at h
      have := congrArg (fun x => x.2.2) h
      simp at this
    | some c =>
      rw [hp] at h
      obtain ⟨m, h1, h2, h3⟩ := run_back (q :: t) (n + 1) (acc ++ [c]) l (by simp) h (by omega)
      have hc := (prog_iff p c).1 hp
      refine ⟨c :: m, by rw [h1]; simp, ?_, fun d hd => ?_⟩
      · have e : join (p :: q :: t) [10] = p ++ 10 :: join (q :: t) [10] := by
          rw [join_cons, join_cons]
          simp [joinTail]
        rw [e, h2, hc.1]
        simp [textL]
      · rcases List.mem_cons.1 hd with rfl | hd
        · exact hc.2
        · exact h3 d hd
theorem run_err : ∀ (ps : List (List UInt8)) (n : Int) (acc : List Cm), (runL progL ps n acc).2.2 ≠ 0 → (runL progL ps n acc).1 = [] ∧ n ≤ (runL progL ps n acc).2.1 ∧ (runL progL ps n acc).2.2 = 16
  | [], n, acc, h => by simp [runL] at h
  | [p], n, acc, h => by
    simp only [runL] at h ⊢
    split
    · rename_i hp
      rw [if_pos hp] at h
      exact absurd rfl h
    · exact ⟨rfl, Int.le_refl _, rfl⟩
  | p :: q :: t, n, acc, h => by
    simp only [runL] at h ⊢
    cases hp : progL p with
    | none => exact ⟨rfl, Int.le_refl _, rfl⟩
    | some c =>
      rw [hp] at h
      have := run_err (q :: t) (n + 1) (acc ++ [c]) h
      exact ⟨this.1, by simp only; omega, this.2.2⟩
end Go.Proofs.YtegndehoiodjeaaDoor.Q
