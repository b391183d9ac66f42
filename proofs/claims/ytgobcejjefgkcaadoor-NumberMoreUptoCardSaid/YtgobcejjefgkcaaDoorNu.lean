/- The number part of a pattern, on lists of bytes: what it says, what is printed of it, and that this says the same again. No program in sight. -/
import Derived.Lib.Strings
namespace Go.Proofs.YtgobcejjefgkcaaDoor.N
set_option linter.unusedVariables false
set_option linter.unusedSimpArgs false

abbrev Bs := List UInt8
def dig (c : UInt8) : Bool := decide (48 ≤ c.toNat) && decide (c.toNat ≤ 57)
def isH (c : UInt8) : Bool := c == 35
def isA (c : UInt8) : Bool := c == 64
def is0 (c : UInt8) : Bool := c == 48
def odd (c : UInt8) : Bool := !dig c && !(c == 35 || c == 64 || c == 44 || c == 46)
theorem isH_iff (c : UInt8) : isH c = true ↔ c = 35 := by simp [isH]
theorem isA_iff (c : UInt8) : isA c = true ↔ c = 64 := by simp [isA]
theorem is0_iff (c : UInt8) : is0 c = true ↔ c = 48 := by simp [is0]

/-- A text at the first c. -/
def cutC (c : UInt8) : Bs → Bs × Bs × Bool
  | [] => ([], [], false)
  | b :: r => if b = c then ([], r, true) else (b :: (cutC c r).1, (cutC c r).2.1, (cutC c r).2.2)
theorem cutC_none (c : UInt8) : ∀ (s : Bs), c ∉ s → cutC c s = (s, [], false)
  | [], _ => rfl
  | b :: r, h => by
    simp only [List.mem_cons, not_or] at h
    simp only [cutC, cutC_none c r h.2]
    rw [if_neg (fun e => h.1 e.symm)]
theorem cutC_at (c : UInt8) : ∀ (s t : Bs), c ∉ s → cutC c (s ++ c :: t) = (s, t, true)
  | [], t, _ => by simp [cutC]
  | b :: r, t, h => by
    simp only [List.mem_cons, not_or] at h
    simp only [List.cons_append, cutC, cutC_at c r t h.2]
    rw [if_neg (fun e => h.1 e.symm)]
theorem cutC_is (c : UInt8) : ∀ (s : Bs), c ∉ (cutC c s).1 ∧ (if (cutC c s).2.2 = true then s = (cutC c s).1 ++ c :: (cutC c s).2.1 else s = (cutC c s).1 ∧ (cutC c s).2.1 = [])
  | [] => by simp [cutC]
  | b :: r => by
    have ih := cutC_is c r
    simp only [cutC]
    split
    · rename_i h; subst h; simp
    · rename_i h
      refine ⟨by simp only [List.mem_cons, not_or]; exact ⟨fun e => h e.symm, ih.1⟩, ?_⟩
      have ih2 := ih.2
      split
      · rename_i h2; rw [if_pos h2] at ih2; rw [List.cons_append, ← ih2]
      · rename_i h2; rw [if_neg h2] at ih2; exact ⟨by rw [← ih2.1], ih2.2⟩

/-- A text, cut at each c. -/
def splitC (c : UInt8) : Bs → List Bs
  | [] => [[]]
  | b :: r => if b = c then [] :: splitC c r else match splitC c r with
    | [] => [[b]]
    | h :: t => (b :: h) :: t
theorem splitC_ne (c : UInt8) (s : Bs) : splitC c s ≠ [] := by
  cases s with
  | nil => simp [splitC]
  | cons b r =>
    simp only [splitC]
    split
    · simp
    · split <;> simp
theorem splitC_free (c : UInt8) : ∀ (w : Bs), c ∉ w → splitC c w = [w]
  | [], _ => rfl
  | b :: r, h => by
    simp only [List.mem_cons, not_or] at h
    simp only [splitC]
    rw [if_neg (fun e => h.1 e.symm), splitC_free c r h.2]
theorem splitC_app (c : UInt8) : ∀ (w s : Bs), c ∉ w → splitC c (w ++ c :: s) = w :: splitC c s
  | [], s, _ => by simp [splitC]
  | b :: r, s, h => by
    simp only [List.mem_cons, not_or] at h
    simp only [List.cons_append, splitC]
    rw [if_neg (fun e => h.1 e.symm), splitC_app c r s h.2]
theorem splitC_flat (c : UInt8) : ∀ (s : Bs), (splitC c s).flatten = s.filter (· != c)
  | [] => rfl
  | b :: r => by
    have ih := splitC_flat c r
    simp only [splitC]
    split
    · rename_i h; subst h; simp [ih]
    · rename_i h
      obtain ⟨x, t, hs⟩ := List.exists_cons_of_ne_nil (splitC_ne c r)
      rw [hs] at ih ⊢
      have : (b != c) = true := bne_iff_ne.2 h
      simp [List.filter_cons, this] at ih ⊢
      exact ih
theorem splitC_len (c : UInt8) : ∀ (s : Bs), (splitC c s).length = s.count c + 1
  | [] => rfl
  | b :: r => by
    have ih := splitC_len c r
    simp only [splitC]
    split
    · rename_i h; subst h; simp [ih]
    · rename_i h
      obtain ⟨x, t, hs⟩ := List.exists_cons_of_ne_nil (splitC_ne c r)
      rw [hs] at ih ⊢
      rw [List.count_cons_of_ne h]
      simpa using ih
theorem filter_len (c : UInt8) : ∀ (s : Bs), (s.filter (· != c)).length + s.count c = s.length
  | [] => rfl
  | b :: r => by
    have ih := filter_len c r
    by_cases h : b = c
    · subst h; simp; omega
    · have : (b != c) = true := bne_iff_ne.2 h
      rw [List.filter_cons, if_pos this, List.count_cons_of_ne h]
      simp; omega

/-! ### spans -/
def sp (a : UInt8 → Bool) (s : Bs) : Nat := (s.takeWhile a).length
theorem sp_le (a : UInt8 → Bool) (s : Bs) : sp a s ≤ s.length := (List.takeWhile_prefix a).length_le
theorem take_sp (a : UInt8 → Bool) (s : Bs) : s.take (sp a s) = s.takeWhile a := by
  have h := List.take_left (l₁ := s.takeWhile a) (l₂ := s.dropWhile a)
  rwa [List.takeWhile_append_dropWhile] at h
theorem drop_sp (a : UInt8 → Bool) (s : Bs) : s.drop (sp a s) = s.dropWhile a := by
  have h := List.drop_left (l₁ := s.takeWhile a) (l₂ := s.dropWhile a)
  rwa [List.takeWhile_append_dropWhile] at h
theorem sp_drop (a : UInt8 → Bool) (s : Bs) : sp a s + (s.dropWhile a).length = s.length := by
  rw [← drop_sp, List.length_drop]; have := sp_le a s; omega

/-! ### what a number part says -/
structure NP where
  (minInt maxInt minFrac maxFrac minSig maxSig prim sec : Nat) (inc : Bs) (sci : Bool) (minExp : Nat) (plus : Bool)
def np0 : NP := ⟨0, 0, 0, 0, 0, 0, 0, 0, [], false, 0, false⟩
def isPlus (exp : Bs) : Bool := exp.head? == some 43
def expX (exp : Bs) : Bs := if isPlus exp then exp.tail else exp
def expE (sci : Bool) (exp : Bs) : Int := if sci then (if (expX exp).dropWhile is0 ≠ [] ∨ sp is0 (expX exp) = 0 then 4 else if 9 < sp is0 (expX exp) then 8 else 0) else 0
def partsE (body : Bs) : Int := if body.any odd ∨ 1 < body.count 46 then 4 else if (cutC 46 body).2.2 ∧ (cutC 46 body).2.1 = [] then 4 else 0
def groupsE (whole frac : Bs) : Int := if 1 < (splitC 44 whole).length ∧ [] ∈ splitC 44 whole then 5 else if 44 ∈ frac then 5 else 0
def primN (l : List Bs) : Nat := if 1 < l.length then (l.getD (l.length - 1) []).length else 0
def secN (l : List Bs) : Nat := if 2 < l.length then (l.getD (l.length - 2) []).length else primN l
def plainN (whole : Bs) : Bs := (splitC 44 whole).flatten
def incN (pl fr : Bs) : Bs := (pl.dropWhile isH ++ fr.takeWhile dig).dropWhile is0
def sigE (point : Bool) (pl : Bs) : Int := if point ∨ pl.any dig then 6 else if ((pl.dropWhile isH).dropWhile isA).dropWhile isH ≠ [] ∨ sp isA (pl.dropWhile isH) = 0 then 4 else 0
def digE (sci : Bool) (pl fr : Bs) : Int := if (pl.dropWhile isH).dropWhile dig ≠ [] ∨ (fr.dropWhile dig).dropWhile isH ≠ [] then 4 else if incN pl fr ≠ [] ∧ (0 < sp isH (fr.dropWhile dig) ∨ sci) then 6 else 0
def countsE (point sci : Bool) (pl fr : Bs) : Int := if pl ++ fr = [] then 4 else if 64 ∈ pl ++ fr then sigE point pl else digE sci pl fr
def fieldsN (sci plus : Bool) (minExp prim sec : Nat) (pl fr : Bs) : NP :=
  if 64 ∈ pl ++ fr then ⟨0, 0, 0, 0, sp isA (pl.dropWhile isH), sp isA (pl.dropWhile isH) + sp isH ((pl.dropWhile isH).dropWhile isA), prim, sec, [], sci, minExp, plus⟩
  else ⟨sp dig (pl.dropWhile isH), if sci then pl.length else 0, sp dig fr, fr.length, 0, 0, prim, sec, incN pl fr, sci, minExp, plus⟩
def mixedE (p : NP) (pl : Bs) : Int :=
  if p.sci ∧ (0 < p.prim ∨ 0 < p.minSig ∧ pl.head? = some 35) then 6
  else if 40 < max p.minInt (max p.maxInt (max p.maxFrac (max p.maxSig (max p.prim (max p.sec p.inc.length))))) then 8 else 0

def bodyN (s : Bs) : Bs := (cutC 69 s).1
def expN (s : Bs) : Bs := (cutC 69 s).2.1
def sciN (s : Bs) : Bool := (cutC 69 s).2.2
def wholeN (s : Bs) : Bs := (cutC 46 (bodyN s)).1
def fracN (s : Bs) : Bs := (cutC 46 (bodyN s)).2.1
def pointN (s : Bs) : Bool := (cutC 46 (bodyN s)).2.2
def plN (s : Bs) : Bs := plainN (wholeN s)
def sayN (s : Bs) : NP := fieldsN (sciN s) (sciN s && isPlus (expN s)) (if sciN s then sp is0 (expX (expN s)) else 0) (primN (splitC 44 (wholeN s))) (secN (splitC 44 (wholeN s))) (plN s) (fracN s)
/-- The error's number. -/
def errN (s : Bs) : Int :=
  if expE (sciN s) (expN s) ≠ 0 then expE (sciN s) (expN s)
  else if partsE (bodyN s) ≠ 0 then partsE (bodyN s)
  else if groupsE (wholeN s) (fracN s) ≠ 0 then groupsE (wholeN s) (fracN s)
  else if countsE (pointN s) (sciN s) (plN s) (fracN s) ≠ 0 then countsE (pointN s) (sciN s) (plN s) (fracN s)
  else mixedE (sayN s) (plN s)
def numN (s : Bs) : NP × Int := if errN s = 0 then (sayN s, 0) else (np0, errN s)
theorem errN_zero {s : Bs} (h : errN s = 0) : expE (sciN s) (expN s) = 0 ∧ partsE (bodyN s) = 0 ∧ groupsE (wholeN s) (fracN s) = 0 ∧ countsE (pointN s) (sciN s) (plN s) (fracN s) = 0 ∧ mixedE (sayN s) (plN s) = 0 := by
  unfold errN at h
  split at h
  · contradiction
  split at h
  · contradiction
  split at h
  · contradiction
  split at h
  · contradiction
  simp only [ne_eq, Decidable.not_not] at *
  exact ⟨‹_›, ‹_›, ‹_›, ‹_›, h⟩
theorem errN_of {s : Bs} (h1 : expE (sciN s) (expN s) = 0) (h2 : partsE (bodyN s) = 0) (h3 : groupsE (wholeN s) (fracN s) = 0) (h4 : countsE (pointN s) (sciN s) (plN s) (fracN s) = 0) (h5 : mixedE (sayN s) (plN s) = 0) : errN s = 0 := by
  unfold errN
  simp [h1, h2, h3, h4, h5]

/-! ### what is printed -/
def rp (c : UInt8) (n : Int) : Bs := List.replicate n.toNat c
def digitsN (p : NP) : Bs := rp 48 ((p.minInt : Int) + p.minFrac - p.inc.length) ++ p.inc
def wholeP (p : NP) : Bs := if 0 < p.minSig then rp 64 p.minSig ++ rp 35 ((p.maxSig : Int) - p.minSig) else (digitsN p).take p.minInt
def leastN (p : NP) : Nat :=
  if p.sci ∧ p.minSig = 0 then p.maxInt
  else if 0 < p.prim ∧ p.sec ≠ p.prim then p.prim + p.sec + 1
  else if 0 < p.prim then p.prim + 1
  else if p.maxFrac = 0 then 1 else 0
def padP (p : NP) : Bs := rp 35 ((leastN p : Int) - (wholeP p).length) ++ wholeP p
def moreP (p : NP) (more : Int) : Bs := if p.sci then padP p else rp 35 more ++ padP p
def commasN (w : Bs) (prim sec : Nat) : Bs :=
  if prim = 0 then w
  else if sec ≠ prim then w.take (w.length - prim - sec) ++ 44 :: ((w.drop (w.length - prim - sec)).take sec ++ 44 :: w.drop (w.length - prim))
  else w.take (w.length - prim) ++ 44 :: w.drop (w.length - prim)
def fracP (p : NP) : Bs := if 0 < p.maxFrac then 46 :: ((digitsN p).drop p.minInt ++ rp 35 ((p.maxFrac : Int) - p.minFrac)) else []
def expP (p : NP) : Bs := if p.sci then 69 :: ((if p.plus then [43] else []) ++ rp 48 p.minExp) else []
def printN (p : NP) (more : Int) : Bs := commasN (moreP p more) p.prim p.sec ++ (fracP p ++ expP p)

/-! ### bounds -/
structure Good (p : NP) : Prop where
  i40 : p.minInt ≤ 40
  x40 : p.maxInt ≤ 40
  f40 : p.maxFrac ≤ 40
  s40 : p.maxSig ≤ 40
  p40 : p.prim ≤ 40
  q40 : p.sec ≤ 40
  n40 : p.inc.length ≤ 40
  ff : p.minFrac ≤ p.maxFrac
  ss : p.minSig ≤ p.maxSig
  s0 : p.minSig = 0 → p.maxSig = 0
  pq : p.prim = 0 ↔ p.sec = 0
  sp0 : p.sci = true → p.prim = 0
  ex : p.sci = true ↔ 0 < p.minExp
  e9 : p.minExp ≤ 9
  ns : p.sci = false → p.plus = false ∧ p.maxInt = 0
  sg : 0 < p.minSig → p.minInt = 0 ∧ p.maxInt = 0 ∧ p.minFrac = 0 ∧ p.maxFrac = 0 ∧ p.inc = []
  ic : p.inc ≠ [] → p.sci = false ∧ p.minFrac = p.maxFrac
  i0 : p.inc.head? ≠ some 48
  id : ∀ c ∈ p.inc, dig c = true
  il : p.inc.length ≤ p.minInt + p.minFrac
  sm : p.sci = true → p.minSig = 0 → p.minInt ≤ p.maxInt ∧ 0 < p.maxInt + p.maxFrac

theorem dw_head (a : UInt8 → Bool) : ∀ (s : Bs) (c : UInt8), (s.dropWhile a).head? = some c → a c = false
  | [], c, h => by simp at h
  | b :: r, c, h => by
    rw [List.dropWhile_cons] at h
    split at h
    · exact dw_head a r c h
    · rename_i hb
      simp at h
      subst h
      simpa using hb
theorem dw_mem (a : UInt8 → Bool) (s : Bs) (c : UInt8) (h : c ∈ s.dropWhile a) : c ∈ s := (List.dropWhile_sublist a).subset h
theorem tw_all (a : UInt8 → Bool) : ∀ (s : Bs) (c : UInt8), c ∈ s.takeWhile a → a c = true
  | [], c, h => by simp at h
  | b :: r, c, h => by
    rw [List.takeWhile_cons] at h
    split at h
    · rename_i hb
      rcases List.mem_cons.1 h with rfl | h
      · exact hb
      · exact tw_all a r c h
    · cases h
theorem dw_nil {a : UInt8 → Bool} {s : Bs} (h : s.dropWhile a = []) : s.takeWhile a = s := by
  have := List.takeWhile_append_dropWhile (p := a) (l := s)
  rw [h, List.append_nil] at this
  exact this
theorem dw_len_le (a : UInt8 → Bool) (s : Bs) : (s.dropWhile a).length ≤ s.length := by have := sp_drop a s; omega
theorem frac_nil {s : Bs} (h : pointN s = false) : fracN s = [] := by
  have := (cutC_is 46 (bodyN s)).2
  unfold pointN at h
  rw [h] at this
  simp at this
  exact this.2
theorem pl_len (s : Bs) : (plN s).length + ((splitC 44 (wholeN s)).length - 1) = (wholeN s).length := by
  unfold plN plainN
  rw [splitC_flat, splitC_len]
  have := filter_len 44 (wholeN s)
  omega
theorem flat_len : ∀ (l : List Bs), [] ∉ l → l.length ≤ l.flatten.length
  | [], _ => Nat.le_refl _
  | x :: l, h => by
    simp only [List.mem_cons, not_or] at h
    have := flat_len l h.2
    have hx : 0 < x.length := List.length_pos_iff.2 (fun e => h.1 e.symm)
    rw [List.flatten_cons, List.length_append, List.length_cons]; omega
theorem flat_two (l : List Bs) (h : [] ∉ l) (h1 : 1 < l.length) : primN l + 1 ≤ l.flatten.length ∧ 0 < primN l ∧ (2 < l.length → secN l + primN l + 1 ≤ l.flatten.length ∧ 0 < secN l) := by
  unfold secN primN
  rw [if_pos h1]
  obtain ⟨l1, z, rfl⟩ : ∃ l1 z, l = l1 ++ [z] := ⟨l.dropLast, l.getLast (fun e => by rw [e] at h1; cases h1), (List.dropLast_concat_getLast _).symm⟩
  simp only [List.mem_append, List.mem_singleton, not_or] at h
  have hz : 0 < z.length := List.length_pos_iff.2 (fun e => h.2 e.symm)
  have e1 : (l1 ++ [z]).getD ((l1 ++ [z]).length - 1) [] = z := by simp [List.getD]
  rw [e1]
  have k1 := flat_len l1 h.1
  have hl1 : 0 < l1.length := by simp at h1; omega
  refine ⟨by rw [List.flatten_append, List.length_append, List.flatten_singleton]; omega, hz, fun h2 => ?_⟩
  rw [if_pos h2]
  obtain ⟨l2, y, rfl⟩ : ∃ l2 y, l1 = l2 ++ [y] := ⟨l1.dropLast, l1.getLast (fun e => by rw [e] at hl1; cases hl1), (List.dropLast_concat_getLast _).symm⟩
  simp only [List.mem_append, List.mem_singleton, not_or] at h
  have hy : 0 < y.length := List.length_pos_iff.2 (fun e => h.1.2 e.symm)
  have e2 : (l2 ++ [y] ++ [z]).getD ((l2 ++ [y] ++ [z]).length - 2) [] = y := by simp [List.getD]
  rw [e2]
  have k2 := flat_len l2 h.1.1
  have hl2 : 0 < l2.length := by simp at h2; omega
  exact ⟨by rw [List.flatten_append, List.flatten_append, List.length_append, List.length_append, List.flatten_singleton, List.flatten_singleton]; omega, hy⟩
theorem expE_is {sci : Bool} {exp : Bs} (h : expE sci exp = 0) (hs : sci = true) : (expX exp).dropWhile is0 = [] ∧ 0 < sp is0 (expX exp) ∧ sp is0 (expX exp) ≤ 9 := by
  unfold expE at h
  rw [if_pos hs] at h
  split at h
  · contradiction
  split at h
  · contradiction
  rename_i h1 h2
  simp only [not_or, ne_eq, Decidable.not_not] at h1
  exact ⟨h1.1, by omega, by omega⟩
theorem groupsE_is {w f : Bs} (h : groupsE w f = 0) (h1 : 1 < (splitC 44 w).length) : [] ∉ splitC 44 w := fun hm => by
  unfold groupsE at h
  rw [if_pos ⟨h1, hm⟩] at h
  contradiction
theorem sigE_is {point : Bool} {pl : Bs} (h : sigE point pl = 0) : point = false ∧ pl.any dig = false ∧ ((pl.dropWhile isH).dropWhile isA).dropWhile isH = [] ∧ 0 < sp isA (pl.dropWhile isH) := by
  unfold sigE at h
  split at h
  · contradiction
  split at h
  · contradiction
  rename_i h1 h2
  simp only [not_or, ne_eq, Decidable.not_not, Bool.not_eq_true] at h1 h2
  exact ⟨h1.1, h1.2, h2.1, by omega⟩
theorem digE_is {sci : Bool} {pl fr : Bs} (h : digE sci pl fr = 0) : (pl.dropWhile isH).dropWhile dig = [] ∧ (fr.dropWhile dig).dropWhile isH = [] ∧ (incN pl fr ≠ [] → sp isH (fr.dropWhile dig) = 0 ∧ sci = false) := by
  unfold digE at h
  split at h
  · contradiction
  split at h
  · contradiction
  rename_i h1 h2
  simp only [not_or, ne_eq, Decidable.not_not, Bool.not_eq_true] at h1
  refine ⟨h1.1, h1.2, fun hi => ?_⟩
  have h3 : ¬ (0 < sp isH (fr.dropWhile dig) ∨ sci = true) := fun h3 => h2 ⟨hi, h3⟩
  simp only [not_or, Bool.not_eq_true] at h3
  exact ⟨by omega, h3.2⟩
theorem mixedE_is {p : NP} {pl : Bs} (h : mixedE p pl = 0) : (p.sci = true → p.prim = 0 ∧ (0 < p.minSig → pl.head? ≠ some 35)) ∧ p.minInt ≤ 40 ∧ p.maxInt ≤ 40 ∧ p.maxFrac ≤ 40 ∧ p.maxSig ≤ 40 ∧ p.prim ≤ 40 ∧ p.sec ≤ 40 ∧ p.inc.length ≤ 40 := by
  unfold mixedE at h
  split at h
  · contradiction
  split at h
  · contradiction
  rename_i h1 h2
  refine ⟨fun hs => ⟨?_, fun hm hp => h1 ⟨hs, .inr ⟨hm, hp⟩⟩⟩, by omega, by omega, by omega, by omega, by omega, by omega, by omega⟩
  have : ¬ (0 < p.prim) := fun hp => h1 ⟨hs, .inl hp⟩
  omega
theorem inc_le (pl fr : Bs) (h : (pl.dropWhile isH).dropWhile dig = []) : (incN pl fr).length ≤ sp dig (pl.dropWhile isH) + sp dig fr := by
  unfold incN
  refine Nat.le_trans (dw_len_le _ _) ?_
  have := sp_drop dig (pl.dropWhile isH)
  rw [h] at this
  simp only [List.length_nil, Nat.add_zero] at this
  rw [List.length_append, ← this]
  exact Nat.le_refl _
theorem inc_dig (pl fr : Bs) (h : (pl.dropWhile isH).dropWhile dig = []) (c : UInt8) (hc : c ∈ incN pl fr) : dig c = true := by
  have := dw_mem _ _ _ hc
  rcases List.mem_append.1 this with h2 | h2
  · rw [← dw_nil h] at h2
    exact tw_all _ _ _ h2
  · exact tw_all _ _ _ h2
theorem say_good {s : Bs} (h : errN s = 0) : Good (sayN s) := by
  obtain ⟨h1, h2, h3, h4, h5⟩ := errN_zero h
  obtain ⟨m0, m1, m2, m3, m4, m5, m6, m7⟩ := mixedE_is h5
  have hpq : primN (splitC 44 (wholeN s)) = 0 ↔ secN (splitC 44 (wholeN s)) = 0 := by
    by_cases hl : 1 < (splitC 44 (wholeN s)).length
    · obtain ⟨k1, k2, k3⟩ := flat_two _ (groupsE_is h3 hl) hl
      by_cases hl2 : 2 < (splitC 44 (wholeN s)).length
      · have := k3 hl2
        omega
      · unfold secN; rw [if_neg hl2]
    · unfold secN primN; rw [if_neg hl, if_neg (by omega)]
  have hex : sciN s = true ↔ 0 < (if sciN s then sp is0 (expX (expN s)) else 0) := by
    by_cases hs : sciN s = true
    · have := expE_is h1 hs
      simp [hs, this.2.1]
    · simp [hs]
  have he9 : (if sciN s then sp is0 (expX (expN s)) else 0) ≤ 9 := by
    by_cases hs : sciN s = true
    · have := expE_is h1 hs
      simp [hs, this.2.2]
    · simp [hs]
  unfold countsE at h4
  split at h4
  · contradiction
  rename_i hne
  split at h4
  · rename_i hsig
    obtain ⟨g1, g2, g3, g4⟩ := sigE_is h4
    have hfn := frac_nil g1
    have e : sayN s = ⟨0, 0, 0, 0, sp isA ((plN s).dropWhile isH), sp isA ((plN s).dropWhile isH) + sp isH (((plN s).dropWhile isH).dropWhile isA), primN (splitC 44 (wholeN s)), secN (splitC 44 (wholeN s)), [], sciN s, (if sciN s then sp is0 (expX (expN s)) else 0), sciN s && isPlus (expN s)⟩ := by
      unfold sayN fieldsN
      rw [if_pos hsig]
    rw [e] at m0 m1 m2 m3 m4 m5 m6 m7 ⊢
    exact ⟨m1, m2, m3, m4, m5, m6, m7, Nat.le_refl _, Nat.le_add_right _ _, fun hz => by simp only at hz; omega, hpq, fun hs => (m0 hs).1, hex, he9, fun hs => ⟨by simp only at hs; simp [hs], rfl⟩, fun _ => ⟨rfl, rfl, rfl, rfl, rfl⟩, fun hh => absurd rfl hh, by simp, fun c hc => by simp at hc, Nat.zero_le _, fun _ hz => by simp only at hz; omega⟩
  · rename_i hsig
    obtain ⟨g1, g2, g3⟩ := digE_is h4
    have e : sayN s = ⟨sp dig ((plN s).dropWhile isH), if sciN s then (plN s).length else 0, sp dig (fracN s), (fracN s).length, 0, 0, primN (splitC 44 (wholeN s)), secN (splitC 44 (wholeN s)), incN (plN s) (fracN s), sciN s, (if sciN s then sp is0 (expX (expN s)) else 0), sciN s && isPlus (expN s)⟩ := by
      unfold sayN fieldsN
      rw [if_neg hsig]
    rw [e] at m0 m1 m2 m3 m4 m5 m6 m7 ⊢
    have hf := sp_drop dig (fracN s)
    have hf2 := sp_drop isH ((fracN s).dropWhile dig)
    rw [g2] at hf2
    simp only [List.length_nil] at hf2
    have hp1 := sp_drop isH (plN s)
    have hp2 := sp_drop dig ((plN s).dropWhile isH)
    rw [g1] at hp2
    simp only [List.length_nil] at hp2
    refine ⟨m1, m2, m3, m4, m5, m6, m7, sp_le _ _, Nat.le_refl _, fun _ => rfl, hpq, fun hs => (m0 hs).1, hex, he9, fun hs => ⟨by simp only at hs; simp [hs], by simp only at hs; simp [hs]⟩, fun hz => by simp only at hz; omega, fun hi => ⟨(g3 hi).2, by have := (g3 hi).1; show sp dig (fracN s) = (fracN s).length; omega⟩, fun hh => ?_, fun c hc => inc_dig _ _ g1 c hc, inc_le _ _ g1, fun hs _ => ?_⟩
    · have := dw_head is0 _ _ hh
      simp [is0] at this
    · simp only at hs
      show sp dig ((plN s).dropWhile isH) ≤ (if sciN s = true then (plN s).length else 0) ∧ 0 < (if sciN s = true then (plN s).length else 0) + (fracN s).length
      rw [if_pos hs]
      refine ⟨by omega, ?_⟩
      have : 0 < (plN s ++ fracN s).length := List.length_pos_iff.2 hne
      rwa [List.length_append] at this

/-! ### what is printed says the same again -/
def ok (c : UInt8) : Prop := c = 35 ∨ c = 64 ∨ dig c = true
theorem ok_not (c : UInt8) (h : ok c) : c ≠ 44 ∧ c ≠ 46 ∧ c ≠ 69 := by
  refine ⟨?_, ?_, ?_⟩ <;> rintro rfl <;> rcases h with h | h | h <;> revert h <;> decide
theorem rp_mem {c x : UInt8} {n : Int} (h : x ∈ rp c n) : x = c := (List.mem_replicate.1 h).2
theorem rp_len (c : UInt8) (n : Int) : (rp c n).length = n.toNat := List.length_replicate ..
theorem rp_nil (c : UInt8) {n : Int} (h : n ≤ 0) : rp c n = [] := by unfold rp; rw [show n.toNat = 0 by omega]; rfl
theorem digits_len {p : NP} (g : Good p) : (digitsN p).length = p.minInt + p.minFrac := by
  have := g.il
  unfold digitsN
  rw [List.length_append, rp_len]
  omega
theorem digits_dig {p : NP} (g : Good p) (c : UInt8) (h : c ∈ digitsN p) : dig c = true := by
  unfold digitsN at h
  rcases List.mem_append.1 h with h | h
  · rw [rp_mem h]; rfl
  · exact g.id c h
def frS (p : NP) : Bs := (digitsN p).drop p.minInt ++ rp 35 ((p.maxFrac : Int) - p.minFrac)
theorem frS_nil {p : NP} (g : Good p) (h : p.maxFrac = 0) : frS p = [] := by
  have := g.ff
  unfold frS
  rw [rp_nil 35 (by omega), List.append_nil, List.drop_eq_nil_iff, digits_len g]
  omega
theorem frS_len {p : NP} (g : Good p) : (frS p).length = p.maxFrac := by
  have := g.ff
  unfold frS
  rw [List.length_append, List.length_drop, digits_len g, rp_len]
  omega
theorem frS_ok {p : NP} (g : Good p) (c : UInt8) (h : c ∈ frS p) : c = 35 ∨ dig c = true := by
  unfold frS at h
  rcases List.mem_append.1 h with h | h
  · exact .inr (digits_dig g c (List.mem_of_mem_drop h))
  · exact .inl (rp_mem h)
theorem fracP_eq (p : NP) : fracP p = if 0 < p.maxFrac then 46 :: frS p else [] := rfl
theorem wholeP_len {p : NP} (g : Good p) : (wholeP p).length = if 0 < p.minSig then p.maxSig else p.minInt := by
  have := g.ss
  unfold wholeP
  split
  · rw [List.length_append, rp_len, rp_len]; omega
  · rw [List.length_take, digits_len g]; omega
theorem wholeP_ok {p : NP} (g : Good p) (c : UInt8) (h : c ∈ wholeP p) : ok c := by
  unfold wholeP at h
  split at h
  · rcases List.mem_append.1 h with h | h
    · exact .inr (.inl (rp_mem h))
    · exact .inl (rp_mem h)
  · exact .inr (.inr (digits_dig g c (List.mem_of_mem_take h)))
theorem wholeP_sig {p : NP} (h : 0 < p.minSig) : wholeP p = rp 64 p.minSig ++ rp 35 ((p.maxSig : Int) - p.minSig) := by unfold wholeP; rw [if_pos h]
theorem wholeP_dig {p : NP} (h : ¬ 0 < p.minSig) : wholeP p = (digitsN p).take p.minInt := by unfold wholeP; rw [if_neg h]
/-- All ahead of whole's own. -/
theorem more_is (p : NP) (m : Int) : ∃ k : Nat, moreP p m = List.replicate k 35 ++ wholeP p ∧ leastN p ≤ (moreP p m).length ∧ (p.sci = true → k = leastN p - (wholeP p).length) := by
  unfold moreP padP rp
  split
  · refine ⟨_, rfl, ?_, fun _ => by omega⟩
    rw [List.length_append, List.length_replicate]; omega
  · rename_i h
    refine ⟨m.toNat + ((leastN p : Int) - (wholeP p).length).toNat, ?_, ?_, fun hs => absurd hs h⟩
    · rw [← List.append_assoc, List.replicate_append_replicate]
    · rw [List.length_append, List.length_append, List.length_replicate, List.length_replicate]; omega
theorem more_ok {p : NP} (g : Good p) (m : Int) (c : UInt8) (h : c ∈ moreP p m) : ok c := by
  obtain ⟨k, e, _⟩ := more_is p m
  rw [e] at h
  rcases List.mem_append.1 h with h | h
  · exact .inl (List.mem_replicate.1 h).2
  · exact wholeP_ok g c h
theorem more_long {p : NP} (g : Good p) (m : Int) : p.prim = 0 ∨ (p.prim < (moreP p m).length ∧ (p.sec ≠ p.prim → p.prim + p.sec < (moreP p m).length)) := by
  obtain ⟨k, e, h, _⟩ := more_is p m
  rcases Nat.eq_zero_or_pos p.prim with hp | hp
  · exact .inl hp
  · right
    have hs : ¬ (p.sci = true ∧ p.minSig = 0) := fun hs => by have := g.sp0 hs.1; omega
    unfold leastN at h
    rw [if_neg hs] at h
    split at h
    · exact ⟨by omega, fun _ => by omega⟩
    · rename_i h2
      try rw [if_pos hp] at h
      exact ⟨by omega, fun hn => absurd ⟨hp, hn⟩ h2⟩
theorem commas_mem {w : Bs} {a b : Nat} {c : UInt8} (h : c ∈ commasN w a b) : c = 44 ∨ c ∈ w := by
  unfold commasN at h
  split at h
  · exact .inr h
  split at h
  · rcases List.mem_append.1 h with h | h
    · exact .inr (List.mem_of_mem_take h)
    rcases List.mem_cons.1 h with rfl | h
    · exact .inl rfl
    rcases List.mem_append.1 h with h | h
    · exact .inr (List.mem_of_mem_drop (List.mem_of_mem_take h))
    rcases List.mem_cons.1 h with rfl | h
    · exact .inl rfl
    exact .inr (List.mem_of_mem_drop h)
  · rcases List.mem_append.1 h with h | h
    · exact .inr (List.mem_of_mem_take h)
    rcases List.mem_cons.1 h with rfl | h
    · exact .inl rfl
    exact .inr (List.mem_of_mem_drop h)
theorem commas_split (w : Bs) (a b : Nat) (hw : 44 ∉ w) (hab : a = 0 ↔ b = 0) (hl : a = 0 ∨ (a < w.length ∧ (b ≠ a → a + b < w.length))) :
    (splitC 44 (commasN w a b)).flatten = w ∧ primN (splitC 44 (commasN w a b)) = a ∧ secN (splitC 44 (commasN w a b)) = b ∧ (1 < (splitC 44 (commasN w a b)).length → [] ∉ splitC 44 (commasN w a b)) ∧ (splitC 44 (commasN w a b)).length - 1 = (if a = 0 then 0 else if b ≠ a then 2 else 1) := by
  have ht : ∀ n, (44 : UInt8) ∉ w.take n := fun n h => hw (List.mem_of_mem_take h)
  have hd : ∀ n, (44 : UInt8) ∉ w.drop n := fun n h => hw (List.mem_of_mem_drop h)
  unfold commasN
  by_cases h0 : a = 0
  · rw [if_pos h0, splitC_free _ _ hw, if_pos h0]
    refine ⟨by simp, ?_, ?_, fun h => by simp at h, rfl⟩
    · simp [primN, h0]
    · simp [secN, primN, hab.1 h0]
  rw [if_neg h0]
  have hb0 : b ≠ 0 := fun h => h0 (hab.2 h)
  rcases hl with hl | ⟨hl, hl2⟩
  · contradiction
  by_cases h1 : b ≠ a
  · have := hl2 h1
    rw [if_pos h1, splitC_app _ _ _ (ht _), splitC_app _ _ _ (fun h => hd _ (List.mem_of_mem_take h)), splitC_free _ _ (hd _), if_neg h0, if_pos h1]
    refine ⟨?_, ?_, ?_, fun _ => ?_, rfl⟩
    · have e : w.drop (w.length - a) = (w.drop (w.length - a - b)).drop b := by rw [List.drop_drop]; congr 1; omega
      simp only [List.flatten_cons, List.flatten_nil, List.append_nil]
      rw [e, List.take_append_drop, List.take_append_drop]
    · simp [primN, List.length_drop]; omega
    · simp [secN, List.length_take, List.length_drop]; omega
    · simp only [List.mem_cons, List.not_mem_nil, or_false, not_or]
      refine ⟨fun e => ?_, fun e => ?_, fun e => ?_⟩
      · have := congrArg List.length e
        simp [List.length_take] at this; omega
      · have := congrArg List.length e
        simp only [List.length_nil, List.length_take, List.length_drop] at this; omega
      · have := congrArg List.length e
        simp only [List.length_nil, List.length_drop] at this; omega
  · rw [if_neg h1, splitC_app _ _ _ (ht _), splitC_free _ _ (hd _), if_neg h0, if_neg h1]
    refine ⟨?_, ?_, ?_, fun _ => ?_, rfl⟩
    · simp [List.take_append_drop]
    · simp [primN, List.length_drop]; omega
    · simp [secN, primN, List.length_drop]; omega
    · simp only [List.mem_cons, List.not_mem_nil, or_false, not_or]
      refine ⟨fun e => ?_, fun e => ?_⟩
      · have := congrArg List.length e
        simp [List.length_take] at this; omega
      · have := congrArg List.length e
        simp only [List.length_nil, List.length_drop] at this; omega
theorem dw_rep (a : UInt8 → Bool) (c : UInt8) (h : a c = true) (t : Bs) : ∀ k, (List.replicate k c ++ t).dropWhile a = t.dropWhile a
  | 0 => rfl
  | k + 1 => by rw [List.replicate_succ, List.cons_append, List.dropWhile_cons, if_pos h, dw_rep a c h t k]
theorem dw_no (a : UInt8 → Bool) : ∀ (t : Bs), (∀ c, t.head? = some c → a c = false) → t.dropWhile a = t
  | [], _ => rfl
  | b :: r, h => by rw [List.dropWhile_cons, h b rfl]; rfl
theorem dw_every (a : UInt8 → Bool) (u : Bs) : ∀ (t : Bs), (∀ c ∈ t, a c = true) → (t ++ u).dropWhile a = u.dropWhile a
  | [], _ => rfl
  | b :: r, h => by rw [List.cons_append, List.dropWhile_cons, if_pos (h b (by simp)), dw_every a u r (fun c hc => h c (by simp [hc]))]
theorem tw_every (a : UInt8 → Bool) (u : Bs) : ∀ (t : Bs), (∀ c ∈ t, a c = true) → (t ++ u).takeWhile a = t ++ u.takeWhile a
  | [], _ => rfl
  | b :: r, h => by rw [List.cons_append, List.takeWhile_cons, if_pos (h b (by simp)), tw_every a u r (fun c hc => h c (by simp [hc])), List.cons_append]
theorem tw_no (a : UInt8 → Bool) : ∀ (t : Bs), (∀ c, t.head? = some c → a c = false) → t.takeWhile a = []
  | [], _ => rfl
  | b :: r, h => by rw [List.takeWhile_cons, h b rfl]; rfl
theorem sp_every (a : UInt8 → Bool) (t : Bs) (h : ∀ c ∈ t, a c = true) : sp a t = t.length := by
  have := tw_every a [] t h
  simp only [List.append_nil, List.takeWhile_nil] at this
  unfold sp
  rw [this]
theorem dig_not {c : UInt8} (h : dig c = true) : isH c = false ∧ isA c = false ∧ c ≠ 64 := by
  refine ⟨?_, ?_, ?_⟩
  · cases hc : isH c with
    | false => rfl
    | true => rw [isH_iff] at hc; subst hc; revert h; decide
  · cases hc : isA c with
    | false => rfl
    | true => rw [isA_iff] at hc; subst hc; revert h; decide
  · rintro rfl; revert h; decide
theorem head_mem {t : Bs} {c : UInt8} (h : t.head? = some c) : c ∈ t := List.mem_of_head? h

theorem printN_cut {p : NP} (g : Good p) (m : Int) : bodyN (printN p m) = commasN (moreP p m) p.prim p.sec ++ fracP p ∧ sciN (printN p m) = p.sci ∧ expN (printN p m) = (if p.sci then (if p.plus then [43] else []) ++ rp 48 p.minExp else []) := by
  have hX : (69 : UInt8) ∉ commasN (moreP p m) p.prim p.sec ++ fracP p := fun h => by
    rcases List.mem_append.1 h with h | h
    · rcases commas_mem h with h | h
      · revert h; decide
      · exact (ok_not _ (more_ok g m _ h)).2.2 rfl
    · rw [fracP_eq] at h
      split at h
      · rcases List.mem_cons.1 h with h | h
        · revert h; decide
        · rcases frS_ok g _ h with h | h <;> revert h <;> decide
      · cases h
  unfold bodyN sciN expN printN
  rw [← List.append_assoc]
  unfold expP
  by_cases hs : p.sci = true
  · rw [if_pos hs, cutC_at _ _ _ hX, if_pos hs, hs]
    exact ⟨rfl, rfl, rfl⟩
  · rw [if_neg hs, List.append_nil, cutC_none _ _ hX, if_neg hs]
    exact ⟨rfl, by simpa using hs, rfl⟩
theorem print_cut2 {p : NP} (g : Good p) (m : Int) : wholeN (printN p m) = commasN (moreP p m) p.prim p.sec ∧ fracN (printN p m) = frS p ∧ pointN (printN p m) = decide (0 < p.maxFrac) := by
  have hX : (46 : UInt8) ∉ commasN (moreP p m) p.prim p.sec := fun h => by
    rcases commas_mem h with h | h
    · revert h; decide
    · exact (ok_not _ (more_ok g m _ h)).2.1 rfl
  unfold wholeN fracN pointN
  rw [(printN_cut g m).1, fracP_eq]
  by_cases hf : 0 < p.maxFrac
  · rw [if_pos hf, cutC_at _ _ _ hX]
    exact ⟨rfl, rfl, by simp [hf]⟩
  · rw [if_neg hf, List.append_nil, cutC_none _ _ hX]
    exact ⟨rfl, (frS_nil g (by omega)).symm, by simp [hf]⟩
theorem print_pl {p : NP} (g : Good p) (m : Int) : plN (printN p m) = moreP p m ∧ primN (splitC 44 (wholeN (printN p m))) = p.prim ∧ secN (splitC 44 (wholeN (printN p m))) = p.sec ∧ (1 < (splitC 44 (wholeN (printN p m))).length → [] ∉ splitC 44 (wholeN (printN p m))) := by
  have h := commas_split (moreP p m) p.prim p.sec (fun h => (ok_not _ (more_ok g m _ h)).1 rfl) g.pq (more_long g m)
  unfold plN plainN
  rw [(print_cut2 g m).1]
  exact ⟨h.1, h.2.1, h.2.2.1, h.2.2.2.1⟩
theorem expX_print {p : NP} (g : Good p) (hs : p.sci = true) : expX ((if p.plus then [43] else []) ++ rp 48 p.minExp) = rp 48 p.minExp ∧ isPlus ((if p.plus then [43] else []) ++ rp 48 p.minExp) = p.plus := by
  have he := g.ex.1 hs
  cases hp : p.plus with
  | true => exact ⟨rfl, rfl⟩
  | false =>
    have : isPlus (rp 48 p.minExp) = false := by
      unfold isPlus rp
      rw [show ((p.minExp : Int)).toNat = (p.minExp - 1) + 1 by omega, List.replicate_succ]
      rfl
    simp only [Bool.false_eq_true, if_false, List.nil_append]
    exact ⟨by unfold expX; rw [this]; rfl, this⟩
theorem inc_again {p : NP} (g : Good p) : (digitsN p).dropWhile is0 = p.inc := by
  unfold digitsN rp
  rw [dw_rep is0 48 rfl, dw_no]
  intro c hc
  cases h : is0 c with
  | false => rfl
  | true =>
    rw [is0_iff] at h
    subst h
    exact absurd hc g.i0
theorem sp_rep (a : UInt8 → Bool) (c : UInt8) (h : a c = true) (k : Nat) : sp a (List.replicate k c) = k := by
  rw [sp_every a _ (fun x hx => by rw [(List.mem_replicate.1 hx).2]; exact h), List.length_replicate]
theorem sp_app (a : UInt8 → Bool) (t u : Bs) (h : ∀ c ∈ t, a c = true) : sp a (t ++ u) = t.length + sp a u := by
  unfold sp
  rw [tw_every a u t h, List.length_append]
theorem dw_all (a : UInt8 → Bool) (t : Bs) (h : ∀ c ∈ t, a c = true) : t.dropWhile a = [] := by
  have := dw_every a [] t h
  simpa using this
/-- What is printed says the same again. -/
theorem print_back {p : NP} (g : Good p) (m : Int) : numN (printN p m) = (p, 0) := by
  obtain ⟨c1, c2, c3⟩ := printN_cut g m
  obtain ⟨d1, d2, d3⟩ := print_cut2 g m
  obtain ⟨e1, e2, e3, e4⟩ := print_pl g m
  obtain ⟨k, f1, f2, f3⟩ := more_is p m
  have hlen := wholeP_len g
  have hfl := frS_len g
  have hff := g.ff
  have hss := g.ss
  -- what it says
  have hcnt : countsE (pointN (printN p m)) (sciN (printN p m)) (plN (printN p m)) (fracN (printN p m)) = 0 ∧ sayN (printN p m) = p ∧ (p.sci = true → 0 < p.minSig → (moreP p m).head? ≠ some 35) := by
    have hexp : (if p.sci = true then sp is0 (expX (expN (printN p m))) else 0) = p.minExp ∧ (p.sci && isPlus (expN (printN p m))) = p.plus := by
      rw [c3]
      by_cases hs : p.sci = true
      · rw [if_pos hs, if_pos hs, (expX_print g hs).1, (expX_print g hs).2]
        exact ⟨by unfold rp; rw [sp_rep is0 48 rfl]; omega, by simp [hs]⟩
      · rw [if_neg hs]
        have h1 := (g.ns (by simpa using hs)).1
        have h2 : p.minExp = 0 := by
          have := mt g.ex.2 hs
          omega
        exact ⟨h2.symm, by simp [hs, h1]⟩
    have hne : moreP p m ++ frS p ≠ [] := fun e => by
      have h0 := congrArg List.length e
      simp only [List.length_append, List.length_nil] at h0
      unfold leastN at f2
      split at f2
      · rename_i hh
        have := (g.sm hh.1 hh.2).2
        omega
      split at f2
      · omega
      split at f2
      · omega
      split at f2
      · omega
      · omega
    unfold sayN countsE
    rw [c2, d2, d3, e1, e2, e3, hexp.1, hexp.2, if_neg hne]
    by_cases hsig : 0 < p.minSig
    · obtain ⟨s1, s2, s3, s4, s5⟩ := g.sg hsig
      have hw := wholeP_sig hsig
      rw [frS_nil g s4, List.append_nil]
      have hm : (64 : UInt8) ∈ moreP p m := by
        rw [f1, hw]
        refine List.mem_append_right _ (List.mem_append_left _ (List.mem_replicate.2 ⟨by omega, rfl⟩))
      have e5 : (moreP p m).dropWhile isH = rp 64 p.minSig ++ rp 35 ((p.maxSig : Int) - p.minSig) := by
        rw [f1, hw, dw_rep isH 35 rfl, dw_no]
        intro c hc
        unfold rp at hc
        rw [show ((p.minSig : Int)).toNat = (p.minSig - 1) + 1 by omega, List.replicate_succ] at hc
        simp at hc
        subst hc
        rfl
      have e6 : sp isA ((moreP p m).dropWhile isH) = p.minSig := by
        rw [e5, sp_app isA _ _ (fun c hc => by rw [rp_mem hc]; rfl), rp_len]
        unfold sp
        rw [tw_no]
        · simp
        · intro c hc
          rw [rp_mem (head_mem hc)]; rfl
      have e7 : ((moreP p m).dropWhile isH).dropWhile isA = rp 35 ((p.maxSig : Int) - p.minSig) := by
        rw [e5, dw_every isA _ _ (fun c hc => by rw [rp_mem hc]; rfl), dw_no]
        intro c hc
        rw [rp_mem (head_mem hc)]; rfl
      have e8 : sp isH (((moreP p m).dropWhile isH).dropWhile isA) = p.maxSig - p.minSig := by
        rw [e7]; unfold rp; rw [sp_rep isH 35 rfl]; omega
      refine ⟨?_, ?_, ?_⟩
      · rw [if_pos hm]
        unfold sigE
        have nd : (moreP p m).any dig = false := by
          rw [List.any_eq_false]
          intro c hc
          rw [f1, hw] at hc
          rcases List.mem_append.1 hc with hc | hc
          · rw [(List.mem_replicate.1 hc).2]; decide
          rcases List.mem_append.1 hc with hc | hc
          · rw [rp_mem hc]; decide
          · rw [rp_mem hc]; decide
        rw [nd, if_neg (by simp; omega), e6, e7, if_neg]
        simp only [not_or, ne_eq, Decidable.not_not]
        exact ⟨by unfold rp; rw [dw_all isH _ (fun x hx => by rw [(List.mem_replicate.1 hx).2]; rfl)], by omega⟩
      · unfold fieldsN
        rw [List.append_nil, if_pos hm, e6, e8, show p.minSig + (p.maxSig - p.minSig) = p.maxSig by omega]
        cases p
        simp only at *
        subst s1 s2 s3 s4 s5
        rfl
      · intro hs _
        have hk := f3 hs
        have hl : leastN p ≤ 1 := by
          unfold leastN
          have := g.sp0 hs
          rw [if_neg (by omega), if_neg (by omega), if_neg (by omega)]
          split <;> omega
        rw [if_pos hsig] at hlen
        rw [f1, show k = 0 by omega, hw]
        unfold rp
        rw [show ((p.minSig : Int)).toNat = (p.minSig - 1) + 1 by omega, List.replicate_succ]
        simp
    · have hw := wholeP_dig hsig
      have e5 : (moreP p m).dropWhile isH = (digitsN p).take p.minInt := by
        rw [f1, hw, dw_rep isH 35 rfl, dw_no]
        intro c hc
        exact (dig_not (digits_dig g c (List.mem_of_mem_take (head_mem hc)))).1
      have hdt : ∀ c ∈ (digitsN p).take p.minInt, dig c = true := fun c hc => digits_dig g c (List.mem_of_mem_take hc)
      have hdd : ∀ c ∈ (digitsN p).drop p.minInt, dig c = true := fun c hc => digits_dig g c (List.mem_of_mem_drop hc)
      have hdl := digits_len g
      have hm : (64 : UInt8) ∉ moreP p m ++ frS p := fun h => by
        rcases List.mem_append.1 h with h | h
        · rw [f1, hw] at h
          rcases List.mem_append.1 h with h | h
          · have := (List.mem_replicate.1 h).2; revert this; decide
          · have := hdt _ h; revert this; decide
        · rcases frS_ok g _ h with h | h <;> revert h <;> decide
      have e6 : sp dig (frS p) = p.minFrac ∧ (frS p).takeWhile dig = (digitsN p).drop p.minInt ∧ (frS p).dropWhile dig = rp 35 ((p.maxFrac : Int) - p.minFrac) := by
        unfold frS
        have hno : ∀ c, (rp 35 ((p.maxFrac : Int) - p.minFrac)).head? = some c → dig c = false := fun c hc => by rw [rp_mem (head_mem hc)]; rfl
        refine ⟨?_, ?_, ?_⟩
        · rw [sp_app dig _ _ hdd]
          unfold sp
          rw [tw_no dig _ hno, List.length_drop, List.length_nil]; omega
        · rw [tw_every dig _ _ hdd, tw_no dig _ hno, List.append_nil]
        · rw [dw_every dig _ _ hdd, dw_no dig _ hno]
      have hinc : incN (moreP p m) (frS p) = p.inc := by
        unfold incN
        rw [e5, e6.2.1, List.take_append_drop, inc_again g]
      have hmx : (if p.sci = true then (moreP p m).length else 0) = p.maxInt := by
        by_cases hs : p.sci = true
        · rw [if_pos hs]
          have hk := f3 hs
          have hl : leastN p = p.maxInt := by unfold leastN; rw [if_pos ⟨hs, by omega⟩]
          have := (g.sm hs (by omega)).1
          rw [if_neg hsig] at hlen
          rw [f1, List.length_append, List.length_replicate, hk, hl, hlen]; omega
        · rw [if_neg hs]
          exact (g.ns (by simpa using hs)).2.symm
      refine ⟨?_, ?_, fun _ h => absurd h hsig⟩
      · rw [if_neg hm]
        unfold digE
        rw [e5, e6.2.2, hinc, dw_all dig _ hdt, if_neg, if_neg]
        · rintro ⟨hi, h⟩
          obtain ⟨i1, i2⟩ := g.ic hi
          rw [i2, i1, rp_nil 35 (by omega)] at h
          simp [sp] at h
        · simp only [not_or, ne_eq, Decidable.not_not, true_and]
          exact dw_all isH _ (fun x hx => by rw [rp_mem hx]; rfl)
      · unfold fieldsN
        rw [if_neg hm, e5, hinc, hmx, e6.1, hfl, sp_every dig _ hdt, List.length_take, hdl, show min p.minInt (p.minInt + p.minFrac) = p.minInt by omega]
        have z1 : p.minSig = 0 := by omega
        have z2 := g.s0 z1
        cases p
        simp only at *
        subst z1 z2
        rfl
  have herr : errN (printN p m) = 0 := by
    refine errN_of ?_ ?_ ?_ hcnt.1 ?_
    · rw [c2, c3]
      unfold expE
      by_cases hs : p.sci = true
      · have h1 := g.ex.1 hs
        have h2 := g.e9
        rw [if_pos hs, if_pos hs, (expX_print g hs).1]
        unfold rp
        rw [sp_rep is0 48 rfl, dw_all is0 _ (fun x hx => by rw [(List.mem_replicate.1 hx).2]; rfl), if_neg, if_neg]
        · omega
        · simp only [not_or, ne_eq, Decidable.not_not, true_and]; omega
      · rw [if_neg hs]
    · rw [c1]
      have hX : (46 : UInt8) ∉ commasN (moreP p m) p.prim p.sec := fun h => by
        rcases commas_mem h with h | h
        · revert h; decide
        · exact (ok_not _ (more_ok g m _ h)).2.1 rfl
      have hX2 : (46 : UInt8) ∉ frS p := fun h => by rcases frS_ok g _ h with h | h <;> revert h <;> decide
      have hok : ∀ c, ok c → odd c = false := fun c h => by
        rcases h with rfl | rfl | h
        · decide
        · decide
        · unfold odd; rw [h]; rfl
      have hodd : (commasN (moreP p m) p.prim p.sec ++ fracP p).any odd = false := by
        rw [List.any_eq_false]
        intro c hc
        rcases List.mem_append.1 hc with hc | hc
        · rcases commas_mem hc with rfl | hc
          · decide
          · rw [hok c (more_ok g m c hc)]; decide
        · rw [fracP_eq] at hc
          split at hc
          · rcases List.mem_cons.1 hc with rfl | hc
            · decide
            · rcases frS_ok g _ hc with rfl | h
              · decide
              · rw [hok c (.inr (.inr h))]; decide
          · cases hc
      unfold partsE
      rw [hodd, fracP_eq]
      by_cases hf : 0 < p.maxFrac
      · rw [if_pos hf, cutC_at _ _ _ hX, if_neg, if_neg]
        · rintro ⟨_, h⟩
          simp only at h
          rw [h] at hfl
          simp at hfl; omega
        · rw [List.count_append, List.count_cons, List.count_eq_zero.2 hX, List.count_eq_zero.2 hX2]
          simp
      · rw [if_neg hf, List.append_nil, cutC_none _ _ hX, if_neg, if_neg]
        · simp
        · rw [List.count_eq_zero.2 hX]; simp
    · unfold groupsE
      rw [if_neg (fun h => e4 h.1 h.2), d2, if_neg]
      intro h
      rcases frS_ok g _ h with h | h <;> revert h <;> decide
    · rw [hcnt.2.1, e1]
      unfold mixedE
      have := g.i40; have := g.x40; have := g.f40; have := g.s40; have := g.p40; have := g.q40; have := g.n40
      rw [if_neg, if_neg (by omega)]
      rintro ⟨hs, h | ⟨h, h2⟩⟩
      · have := g.sp0 hs; omega
      · exact hcnt.2.2 hs h h2
  unfold numN
  rw [if_pos herr, hcnt.2.1]

/-! ### more of them; how long it is -/
theorem commas_more (k : Nat) (w : Bs) (a b : Nat) (hl : a = 0 ∨ (a < w.length ∧ (b ≠ a → a + b < w.length))) : commasN (List.replicate k 35 ++ w) a b = List.replicate k 35 ++ commasN w a b := by
  unfold commasN
  by_cases h0 : a = 0
  · rw [if_pos h0, if_pos h0]
  rcases hl with hl | ⟨hl, hl2⟩
  · contradiction
  rw [if_neg h0, if_neg h0, List.length_append, List.length_replicate]
  have tk : ∀ n, List.take (k + n) (List.replicate k 35 ++ w) = List.replicate k 35 ++ w.take n := fun n => by
    have := List.take_length_add_append (l₁ := List.replicate k (35 : UInt8)) (l₂ := w) n
    rwa [List.length_replicate] at this
  have dk : ∀ n, List.drop (k + n) (List.replicate k 35 ++ w) = w.drop n := fun n => by
    have := List.drop_length_add_append (l₁ := List.replicate k (35 : UInt8)) (l₂ := w) n
    rwa [List.length_replicate] at this
  by_cases h1 : b ≠ a
  · have := hl2 h1
    rw [if_pos h1, if_pos h1, show k + w.length - a - b = k + (w.length - a - b) by omega, show k + w.length - a = k + (w.length - a) by omega, tk, dk, dk, List.append_assoc]
  · rw [if_neg h1, if_neg h1, show k + w.length - a = k + (w.length - a) by omega, tk, dk, List.append_assoc]
theorem more_zero (p : NP) (m : Int) (h : m ≤ 0) : moreP p m = padP p := by
  unfold moreP
  rw [rp_nil 35 h]
  split <;> rfl
/-- More # ahead are just these. -/
theorem print_more {p : NP} (g : Good p) (m : Int) : printN p m = (if p.sci then [] else rp 35 m) ++ printN p 0 := by
  unfold printN
  have h0 := more_long g 0
  rw [more_zero p 0 (Int.le_refl 0)] at h0 ⊢
  unfold moreP
  split
  · rfl
  · unfold rp
    rw [commas_more _ _ _ _ h0, List.append_assoc]
theorem print_neg (p : NP) (m : Int) (h : m ≤ 0) : printN p m = printN p 0 := by
  unfold printN
  rw [more_zero p m h, more_zero p 0 (Int.le_refl 0)]
theorem cut_len (c : UInt8) (s : Bs) : s.length = (cutC c s).1.length + (if (cutC c s).2.2 = true then 1 + (cutC c s).2.1.length else 0) := by
  have := (cutC_is c s).2
  split at this
  · rename_i h
    rw [if_pos h]
    have := congrArg List.length this
    rw [List.length_append, List.length_cons] at this
    omega
  · rename_i h
    rw [if_neg h]
    have := congrArg List.length this.1
    omega
theorem commas_len (w : Bs) (a b : Nat) (hl : a = 0 ∨ (a < w.length ∧ (b ≠ a → a + b < w.length))) : (commasN w a b).length = w.length + (if a = 0 then 0 else if b ≠ a then 2 else 1) := by
  unfold commasN
  by_cases h0 : a = 0
  · rw [if_pos h0, if_pos h0]; rfl
  rcases hl with hl | ⟨hl, hl2⟩
  · contradiction
  rw [if_neg h0, if_neg h0]
  by_cases h1 : b ≠ a
  · have := hl2 h1
    rw [if_pos h1, if_pos h1]
    simp only [List.length_append, List.length_cons, List.length_take, List.length_drop]
    omega
  · rw [if_neg h1, if_neg h1]
    simp only [List.length_append, List.length_cons, List.length_take, List.length_drop]
    omega
/-- What is printed is no longer than what it was made of. -/
theorem print_short {s : Bs} (h : errN s = 0) : (printN (sayN s) 0).length ≤ s.length := by
  have g := say_good h
  obtain ⟨h1, h2, h3, h4, h5⟩ := errN_zero h
  have l1 := cut_len 69 s
  have l2 := cut_len 46 (bodyN s)
  have l3 := pl_len s
  change s.length = (bodyN s).length + (if sciN s = true then 1 + (expN s).length else 0) at l1
  change (bodyN s).length = (wholeN s).length + (if pointN s = true then 1 + (fracN s).length else 0) at l2
  -- the parts of what is printed
  have q1 := commas_len (moreP (sayN s) 0) (sayN s).prim (sayN s).sec (more_long g 0)
  have q2 : (fracP (sayN s)).length = if 0 < (sayN s).maxFrac then 1 + (sayN s).maxFrac else 0 := by
    rw [fracP_eq]
    split
    · rw [List.length_cons, frS_len g]; omega
    · rfl
  have q3 : (expP (sayN s)).length = if (sayN s).sci then 1 + ((if (sayN s).plus then 1 else 0) + (sayN s).minExp) else 0 := by
    unfold expP
    split
    · rw [List.length_cons, List.length_append, rp_len]
      split <;> simp <;> omega
    · rfl
  have q4 : (printN (sayN s) 0).length = (commasN (moreP (sayN s) 0) (sayN s).prim (sayN s).sec).length + ((fracP (sayN s)).length + (expP (sayN s)).length) := by
    unfold printN
    rw [List.length_append, List.length_append]
  have q5 : (moreP (sayN s) 0).length = max (leastN (sayN s)) (wholeP (sayN s)).length := by
    rw [more_zero _ 0 (Int.le_refl 0)]
    unfold padP
    rw [List.length_append, rp_len]
    omega
  rw [wholeP_len g] at q5
  -- the exponent
  have hX : (if sciN s = true then 1 + (expN s).length else 0) = (expP (sayN s)).length := by
    rw [q3]
    have es : (sayN s).sci = sciN s := by unfold sayN fieldsN; split <;> rfl
    have ep : (sayN s).plus = (sciN s && isPlus (expN s)) := by unfold sayN fieldsN; split <;> rfl
    have ee : (sayN s).minExp = (if sciN s then sp is0 (expX (expN s)) else 0) := by unfold sayN fieldsN; split <;> rfl
    rw [es, ep, ee]
    by_cases hs : sciN s = true
    · rw [if_pos hs, if_pos hs, if_pos hs, hs]
      obtain ⟨x1, x2, x3⟩ := expE_is h1 hs
      have x4 := sp_drop is0 (expX (expN s))
      rw [x1] at x4
      simp only [List.length_nil, Nat.add_zero] at x4
      rw [x4]
      unfold expX
      cases hp : isPlus (expN s) with
      | true =>
        have : 0 < (expN s).length := by
          cases he : expN s with
          | nil => rw [he] at hp; simp [isPlus] at hp
          | cons a r => simp
        simp only [if_true, Bool.true_and, List.length_tail]
        omega
      | false => simp
    · rw [if_neg hs, if_neg hs]
  -- the parts
  have hcom : (if (sayN s).prim = 0 then 0 else if (sayN s).sec ≠ (sayN s).prim then 2 else 1) ≤ (splitC 44 (wholeN s)).length - 1 := by
    have e1 : (sayN s).prim = primN (splitC 44 (wholeN s)) := by unfold sayN fieldsN; split <;> rfl
    have e2 : (sayN s).sec = secN (splitC 44 (wholeN s)) := by unfold sayN fieldsN; split <;> rfl
    rw [e1, e2]
    by_cases k1 : 1 < (splitC 44 (wholeN s)).length
    · by_cases k2 : 2 < (splitC 44 (wholeN s)).length
      · split
        · omega
        · split <;> omega
      · have : secN (splitC 44 (wholeN s)) = primN (splitC 44 (wholeN s)) := by unfold secN; rw [if_neg k2]
        rw [this]
        split
        · omega
        · simp; omega
    · have : primN (splitC 44 (wholeN s)) = 0 := by unfold primN; rw [if_neg k1]
      rw [if_pos this]; omega
  have hleast : ∀ M, (sayN s).prim = primN (splitC 44 (wholeN s)) → (sayN s).sec = secN (splitC 44 (wholeN s)) → ((sayN s).sci = true → (sayN s).minSig = 0 → (sayN s).maxInt ≤ (plN s).length) → ((sayN s).maxFrac = 0 → 0 < (plN s).length) → M = leastN (sayN s) → M ≤ (plN s).length := by
    intro M e1 e2 e3 e4 rfl
    unfold leastN
    split
    · rename_i hh; exact e3 hh.1 hh.2
    have hpp : (plN s).length = (splitC 44 (wholeN s)).flatten.length := rfl
    split
    · rename_i hh
      rw [e1, e2] at hh ⊢
      have k2 : 2 < (splitC 44 (wholeN s)).length := by
        refine Decidable.byContradiction fun hk => hh.2 ?_
        unfold secN; rw [if_neg hk]
      have k1 : 1 < (splitC 44 (wholeN s)).length := by omega
      have := (flat_two _ (groupsE_is h3 k1) k1).2.2 k2
      omega
    split
    · rename_i hh
      rw [e1] at hh ⊢
      have k1 : 1 < (splitC 44 (wholeN s)).length := by
        refine Decidable.byContradiction fun hk => ?_
        unfold primN at hh; rw [if_neg hk] at hh; omega
      have := (flat_two _ (groupsE_is h3 k1) k1).1
      omega
    split
    · rename_i hh; exact e4 hh
    · omega
  unfold countsE at h4
  split at h4
  · contradiction
  rename_i hne
  have hne2 : 0 < (plN s).length + (fracN s).length := by rw [← List.length_append]; exact List.length_pos_iff.2 hne
  split at h4
  · rename_i hsig
    obtain ⟨g1, g2, g3, g4⟩ := sigE_is h4
    have hfn := frac_nil g1
    rw [hfn, List.length_nil] at hne2
    have e : sayN s = ⟨0, 0, 0, 0, sp isA ((plN s).dropWhile isH), sp isA ((plN s).dropWhile isH) + sp isH (((plN s).dropWhile isH).dropWhile isA), primN (splitC 44 (wholeN s)), secN (splitC 44 (wholeN s)), [], sciN s, (if sciN s then sp is0 (expX (expN s)) else 0), sciN s && isPlus (expN s)⟩ := by
      unfold sayN fieldsN
      rw [if_pos hsig]
    have p1 := sp_drop isH (plN s)
    have p2 := sp_drop isA ((plN s).dropWhile isH)
    have p3 := sp_drop isH (((plN s).dropWhile isH).dropWhile isA)
    have hl := hleast (leastN (sayN s)) (by rw [e]) (by rw [e]) (fun _ hz => by rw [e] at hz; simp only at hz; omega) (fun _ => by omega) rfl
    have m1 : 0 < (sayN s).minSig := by rw [e]; exact g4
    have m2 : (sayN s).maxSig ≤ (plN s).length := by rw [e]; show sp isA ((plN s).dropWhile isH) + sp isH (((plN s).dropWhile isH).dropWhile isA) ≤ _; omega
    have m3 : (sayN s).maxFrac = 0 := by rw [e]
    rw [if_pos m1] at q5
    rw [m3] at q2
    simp only [Nat.lt_irrefl, if_false] at q2
    omega
  · rename_i hsig
    obtain ⟨g1, g2, g3⟩ := digE_is h4
    have e : sayN s = ⟨sp dig ((plN s).dropWhile isH), if sciN s then (plN s).length else 0, sp dig (fracN s), (fracN s).length, 0, 0, primN (splitC 44 (wholeN s)), secN (splitC 44 (wholeN s)), incN (plN s) (fracN s), sciN s, (if sciN s then sp is0 (expX (expN s)) else 0), sciN s && isPlus (expN s)⟩ := by
      unfold sayN fieldsN
      rw [if_neg hsig]
    have p1 := sp_drop isH (plN s)
    have p2 := sp_drop dig ((plN s).dropWhile isH)
    have m1 : (sayN s).minSig = 0 := by rw [e]
    have m2 : (sayN s).minInt ≤ (plN s).length := by rw [e]; show sp dig ((plN s).dropWhile isH) ≤ _; omega
    have m3 : (sayN s).maxFrac = (fracN s).length := by rw [e]
    have m4 : (sayN s).sci = true → (sayN s).maxInt = (plN s).length := fun hs => by
      rw [e] at hs ⊢
      simp only at hs ⊢
      rw [if_pos hs]
    have hl := hleast (leastN (sayN s)) (by rw [e]) (by rw [e]) (fun hs _ => by rw [m4 hs]; exact Nat.le_refl _) (fun hz => by omega) rfl
    have hpt : 0 < (fracN s).length → pointN s = true := fun hf => by
      cases hp : pointN s with
      | true => rfl
      | false => rw [frac_nil hp] at hf; simp at hf
    rw [if_neg (by omega)] at q5
    rw [m3] at q2
    by_cases hf : 0 < (fracN s).length
    · rw [if_pos (hpt hf)] at l2
      rw [if_pos hf] at q2
      omega
    · rw [if_neg hf] at q2
      omega

/-! ### the reference's commas -/
def refCommas (w : Bs) (a b : Nat) : Nat → Bs
  | 0 => []
  | k + 1 => (if 0 < a ∧ k + 1 < w.length ∧ (k + 1 = a ∨ b ≠ a ∧ k + 1 = a + b) then [44] else []) ++ w.getD (w.length - (k + 1)) 0 :: refCommas w a b k
theorem drop_cons (w : Bs) (i : Nat) (h : i < w.length) : w.drop i = w.getD i 0 :: w.drop (i + 1) := by
  rw [List.drop_eq_getElem_cons h, List.getD_eq_getElem?_getD, List.getElem?_eq_getElem h]
  rfl
theorem ref_low (w : Bs) (a b : Nat) : ∀ k, k ≤ w.length → k < a ∨ a = 0 → refCommas w a b k = w.drop (w.length - k)
  | 0, _, _ => by simp [refCommas]
  | k + 1, h, ha => by
    unfold refCommas
    rw [ref_low w a b k (by omega) (by omega), if_neg (by omega), drop_cons w (w.length - (k + 1)) (by omega), show w.length - (k + 1) + 1 = w.length - k by omega]
    rfl
theorem ref_mid (w : Bs) (a b : Nat) (h0 : 0 < a) (h1 : a < w.length) : ∀ j, a + j ≤ w.length → (b = a ∨ j < b) → refCommas w a b (a + j) = (w.drop (w.length - a - j)).take j ++ 44 :: w.drop (w.length - a)
  | 0, h, hb => by
    obtain ⟨c, rfl⟩ : ∃ c, a = c + 1 := ⟨a - 1, by omega⟩
    simp only [Nat.add_zero, List.take_zero, List.nil_append]
    unfold refCommas
    rw [if_pos ⟨by omega, by omega, .inl rfl⟩, ref_low w (c + 1) b c (by omega) (by omega), drop_cons w (w.length - (c + 1)) (by omega), show w.length - (c + 1) + 1 = w.length - c by omega]
    rfl
  | j + 1, h, hb => by
    rw [← Nat.add_assoc]
    unfold refCommas
    rw [ref_mid w a b h0 h1 j (by omega) (by omega), if_neg (by omega), show w.length - (a + j + 1) = w.length - a - (j + 1) by omega, drop_cons w (w.length - a - (j + 1)) (by omega), show w.length - a - (j + 1) + 1 = w.length - a - j by omega]
    simp
theorem ref_top (w : Bs) (a b : Nat) (h0 : 0 < a) (hb : 0 < b) (hba : b ≠ a) (h1 : a + b < w.length) : ∀ j, a + b + j ≤ w.length → refCommas w a b (a + b + j) = (w.drop (w.length - a - b - j)).take j ++ 44 :: ((w.drop (w.length - a - b)).take b ++ 44 :: w.drop (w.length - a))
  | 0, h => by
    obtain ⟨c, rfl⟩ : ∃ c, b = c + 1 := ⟨b - 1, by omega⟩
    simp only [Nat.add_zero, List.take_zero, List.nil_append]
    rw [← Nat.add_assoc]
    unfold refCommas
    rw [if_pos ⟨by omega, by omega, .inr ⟨hba, by omega⟩⟩, ref_mid w a (c + 1) h0 (by omega) c (by omega) (by omega), show w.length - (a + c + 1) = w.length - a - (c + 1) by omega, drop_cons w (w.length - a - (c + 1)) (by omega), show w.length - a - (c + 1) + 1 = w.length - a - c by omega]
    simp
  | j + 1, h => by
    rw [← Nat.add_assoc]
    unfold refCommas
    rw [ref_top w a b h0 hb hba h1 j (by omega), if_neg (by omega), show w.length - (a + b + j + 1) = w.length - a - b - (j + 1) by omega, drop_cons w (w.length - a - b - (j + 1)) (by omega), show w.length - a - b - (j + 1) + 1 = w.length - a - b - j by omega]
    simp
theorem ref_commas (w : Bs) (a b : Nat) (hab : a = 0 ↔ b = 0) (hl : a = 0 ∨ (a < w.length ∧ (b ≠ a → a + b < w.length))) : refCommas w a b w.length = commasN w a b := by
  unfold commasN
  by_cases h0 : a = 0
  · rw [if_pos h0, ref_low w a b w.length (Nat.le_refl _) (.inr h0)]; simp
  rcases hl with hl | ⟨hl, hl2⟩
  · contradiction
  rw [if_neg h0]
  by_cases h1 : b ≠ a
  · have := hl2 h1
    have := ref_top w a b (by omega) (by omega) h1 this (w.length - a - b) (by omega)
    rw [show a + b + (w.length - a - b) = w.length by omega, Nat.sub_self, List.drop_zero] at this
    rw [if_pos h1, this]
  · have := ref_mid w a b (by omega) hl (w.length - a) (by omega) (by omega)
    rw [show a + (w.length - a) = w.length by omega, Nat.sub_self, List.drop_zero] at this
    rw [if_neg h1, this]
end Go.Proofs.YtgobcejjefgkcaaDoor.N
