/- The reference's Number in plain words, stage by stage: it is what a number part says. No program in sight. -/
import Derived.Test.YtkgdpgoianimjaaKb
namespace Go.Proofs.Ytkgdpgoianimjaa.N
set_option linter.unusedVariables false
set_option linter.unusedSimpArgs false

def over (p : NP) : Prop := 40 < p.minInt ∨ 40 < p.maxInt ∨ 40 < p.maxFrac ∨ 40 < p.maxSig ∨ 40 < p.prim ∨ 40 < p.sec ∨ 40 < p.inc.length
instance (p : NP) : Decidable (over p) := by unfold over; infer_instance
def g18 (p : NP) (sci : Bool) (k : Nat) (pl : Bs) : NP × Int :=
  if sci = true ∧ (1 < k ∨ 0 < p.minSig ∧ pl.head? = some 35) then (np0, 6) else if over p then (np0, 8) else (p, 0)
def rowsS (pl : Bs) : Bool := (((pl.dropWhile isH).dropWhile isA).dropWhile isH).isEmpty
def rowsI (pl : Bs) : Bool := ((pl.dropWhile isH).dropWhile dig).isEmpty
def rowsF (fr : Bs) : Bool := ((fr.dropWhile dig).dropWhile isH).isEmpty
def incR (l : Bs) : Bs := (l.filter (· != 35)).dropWhile is0
def pSigR (p : NP) (pl : Bs) : NP := { p with minSig := pl.count 64, maxSig := (pl.dropWhile isH).length }
def pDigR (p : NP) (sci : Bool) (pl fr : Bs) : NP := { p with minInt := pl.countP dig, minFrac := fr.countP dig, maxFrac := fr.length, inc := incR (pl ++ fr), maxInt := if sci = true then pl.length else p.maxInt }
def gSig (p : NP) (sci point : Bool) (k : Nat) (pl : Bs) : NP × Int :=
  if point = true ∨ 0 < pl.countP dig then (np0, 6) else if rowsS pl = false then (np0, 4) else g18 (pSigR p pl) sci k pl
def gDig (p : NP) (sci : Bool) (k : Nat) (pl fr : Bs) : NP × Int :=
  if rowsI pl = false ∨ rowsF fr = false then (np0, 4)
  else if incR (pl ++ fr) ≠ [] ∧ (fr.countP dig < fr.length ∨ sci = true) then (np0, 6)
  else g18 (pDigR p sci pl fr) sci k pl
def g16 (p : NP) (sci point : Bool) (k : Nat) (pl fr : Bs) : NP × Int :=
  if pl ++ fr = [] then (np0, 4) else if 0 < (pl ++ fr).count 64 then gSig p sci point k pl else gDig p sci k pl fr
def pGrp (p : NP) (l : List Nat) : NP := if 1 < l.length then { p with prim := l.getD (l.length - 1) 0, sec := if 2 < l.length then l.getD (l.length - 2) 0 else l.getD (l.length - 1) 0 } else p
def g12 (p : NP) (sci point : Bool) (l : List Nat) (pl fr : Bs) : NP × Int :=
  if 1 < l.length ∧ 0 ∈ l then (np0, 5) else g16 (pGrp p l) sci point l.length pl fr
def g5 (p : NP) (sci : Bool) (body : Bs) : NP × Int :=
  if 0 < (cutC 46 body).2.1.count 46 ∨ (cutC 46 body).2.2 = true ∧ (cutC 46 body).2.1 = [] then (np0, 4)
  else if 0 < (cutC 46 body).2.1.count 44 then (np0, 5)
  else g12 p sci (cutC 46 body).2.2 ((splitC 44 (cutC 46 body).1).map List.length) (splitC 44 (cutC 46 body).1).flatten (cutC 46 body).2.1
def g4 (p : NP) (sci : Bool) (body : Bs) : NP × Int := if body.any odd = true then (np0, 4) else g5 p sci body
def g3 (sci : Bool) (exp body : Bs) : NP × Int :=
  if sci = true then
    if expX exp = [] ∨ (expX exp).dropWhile is0 ≠ [] then (np0, 4)
    else if 9 < (expX exp).length then (np0, 8)
    else g4 { np0 with sci := true, minExp := (expX exp).length, plus := isPlus exp } true body
  else g4 np0 false body
def g0 (s : Bs) : NP × Int := g3 (cutC 69 s).2.2 (cutC 69 s).2.1 (cutC 69 s).1

theorem num_exp {s : Bs} (h : expE (sciN s) (expN s) ≠ 0) : numN s = (np0, expE (sciN s) (expN s)) := by
  have e : errN s = expE (sciN s) (expN s) := by unfold errN; rw [if_pos h]
  unfold numN
  rw [e, if_neg h]
theorem num_parts {s : Bs} (h0 : expE (sciN s) (expN s) = 0) (h : partsE (bodyN s) ≠ 0) : numN s = (np0, partsE (bodyN s)) := by
  have e : errN s = partsE (bodyN s) := by unfold errN; rw [if_neg (by simp [h0]), if_pos h]
  unfold numN
  rw [e, if_neg h]
theorem num_groups {s : Bs} (h0 : expE (sciN s) (expN s) = 0) (h1 : partsE (bodyN s) = 0) (h : groupsE (wholeN s) (fracN s) ≠ 0) : numN s = (np0, groupsE (wholeN s) (fracN s)) := by
  have e : errN s = groupsE (wholeN s) (fracN s) := by unfold errN; rw [if_neg (by simp [h0]), if_neg (by simp [h1]), if_pos h]
  unfold numN
  rw [e, if_neg h]
theorem num_counts {s : Bs} (h0 : expE (sciN s) (expN s) = 0) (h1 : partsE (bodyN s) = 0) (h2 : groupsE (wholeN s) (fracN s) = 0) (h : countsE (pointN s) (sciN s) (plN s) (fracN s) ≠ 0) : numN s = (np0, countsE (pointN s) (sciN s) (plN s) (fracN s)) := by
  have e : errN s = countsE (pointN s) (sciN s) (plN s) (fracN s) := by unfold errN; rw [if_neg (by simp [h0]), if_neg (by simp [h1]), if_neg (by simp [h2]), if_pos h]
  unfold numN
  rw [e, if_neg h]
theorem num_mixed {s : Bs} (h0 : expE (sciN s) (expN s) = 0) (h1 : partsE (bodyN s) = 0) (h2 : groupsE (wholeN s) (fracN s) = 0) (h3 : countsE (pointN s) (sciN s) (plN s) (fracN s) = 0) :
    numN s = if mixedE (sayN s) (plN s) = 0 then (sayN s, 0) else (np0, mixedE (sayN s) (plN s)) := by
  have e : errN s = mixedE (sayN s) (plN s) := by unfold errN; rw [if_neg (by simp [h0]), if_neg (by simp [h1]), if_neg (by simp [h2]), if_neg (by simp [h3])]
  unfold numN
  rw [e]
theorem sp_all {a : UInt8 → Bool} {s : Bs} (h : s.dropWhile a = []) : sp a s = s.length := by
  have := sp_drop a s
  rw [h] at this
  simpa using this
theorem over_iff (p : NP) : over p ↔ 40 < max p.minInt (max p.maxInt (max p.maxFrac (max p.maxSig (max p.prim (max p.sec p.inc.length))))) := by
  unfold over; omega
/-- The last stage. -/
theorem g18_is (p : NP) (k : Nat) (pl : Bs) (hk : p.sci = true → (1 < k ↔ 0 < p.prim)) : g18 p p.sci k pl = if mixedE p pl = 0 then (p, 0) else (np0, mixedE p pl) := by
  unfold g18 mixedE
  by_cases h : p.sci = true ∧ (0 < p.prim ∨ 0 < p.minSig ∧ pl.head? = some 35)
  · rw [if_pos h, if_pos ⟨h.1, h.2.imp (hk h.1).2 id⟩]
    rfl
  · rw [if_neg h, if_neg (fun h2 => h ⟨h2.1, h2.2.imp (hk h2.1).1 id⟩)]
    by_cases ho : over p
    · rw [if_pos ho, if_pos ((over_iff p).1 ho)]
      rfl
    · rw [if_neg ho, if_neg (fun h3 => ho ((over_iff p).2 h3))]
      rfl
theorem count_pos (c : UInt8) (l : Bs) : 0 < l.count c ↔ c ∈ l := List.count_pos_iff
theorem countP_pos (l : Bs) : 0 < l.countP dig ↔ l.any dig = true := by
  rw [List.countP_pos_iff, List.any_eq_true]
theorem count_zero (a : UInt8 → Bool) : ∀ (l : Bs), (∀ c ∈ l, a c = false) → l.countP a = 0 := fun l h => by
  rw [List.countP_eq_zero]
  intro c hc
  rw [h c hc]
  decide
/-- As many as stand in a row, where no others are. -/
theorem countP_row (a b : UInt8 → Bool) (l : Bs) (hab : ∀ c, b c = true → a c = false) (h : (l.dropWhile a).dropWhile b = []) : (l.takeWhile a).countP a = sp a l ∧ l.countP a = sp a l := by
  have h1 : (l.takeWhile a).countP a = sp a l := by
    unfold sp
    rw [List.countP_eq_length]
    exact tw_all a l
  refine ⟨h1, ?_⟩
  have h2 : (l.dropWhile a).countP a = 0 := count_zero _ _ (fun c hc => hab c (by rw [← dw_nil h] at hc; exact tw_all b _ c hc))
  have h3 := List.takeWhile_append_dropWhile (p := a) (l := l)
  rw [← h3, List.countP_append, h1, h2, h3]
  rfl
theorem countP_dw (a b : UInt8 → Bool) (l : Bs) (hab : ∀ c, a c = true → b c = false) : l.countP b = (l.dropWhile a).countP b := by
  have h3 := List.takeWhile_append_dropWhile (p := a) (l := l)
  have h2 : (l.takeWhile a).countP b = 0 := count_zero _ _ (fun c hc => hab c (tw_all a l c hc))
  conv => lhs; rw [← h3, List.countP_append, h2]
  simp
theorem isH_not {c : UInt8} (h : isH c = true) : isA c = false ∧ dig c = false ∧ (c != 35) = false := by
  rw [isH_iff] at h; subst h; decide
theorem count_A (l : Bs) : l.count 64 = l.countP isA := rfl
theorem filter_dig (l : Bs) (h : ∀ c ∈ l, dig c = true) : l.filter (· != 35) = l :=
  List.filter_eq_self.2 (fun c hc => by
    have := (dig_not (h c hc)).1
    unfold isH at this
    simpa using this)
theorem filter_H (l : Bs) (h : ∀ c ∈ l, isH c = true) : l.filter (· != 35) = [] := by
  rw [List.filter_eq_nil_iff]
  intro c hc
  have := (isH_not (h c hc)).2.2
  rw [this]; decide
theorem inc_is {pl fr : Bs} (h1 : (pl.dropWhile isH).dropWhile dig = []) (h2 : (fr.dropWhile dig).dropWhile isH = []) : incR (pl ++ fr) = incN pl fr := by
  have e1 : pl.filter (· != 35) = pl.dropWhile isH := by
    conv => lhs; rw [← List.takeWhile_append_dropWhile (p := isH) (l := pl)]
    rw [List.filter_append, filter_H _ (tw_all isH pl), List.nil_append]
    refine filter_dig _ (fun c hc => ?_)
    rw [← dw_nil h1] at hc
    exact tw_all dig _ c hc
  have e2 : fr.filter (· != 35) = fr.takeWhile dig := by
    conv => lhs; rw [← List.takeWhile_append_dropWhile (p := dig) (l := fr)]
    rw [List.filter_append, filter_dig _ (tw_all dig fr), filter_H _ (fun c hc => by rw [← dw_nil h2] at hc; exact tw_all isH _ c hc), List.append_nil]
  unfold incR incN
  rw [List.filter_append, e1, e2]
theorem empty_iff (l : Bs) : l.isEmpty = false ↔ l ≠ [] := by cases l <;> simp
theorem rowsI_iff (pl : Bs) : rowsI pl = false ↔ (pl.dropWhile isH).dropWhile dig ≠ [] := empty_iff _
theorem rowsF_iff (pl : Bs) : rowsF pl = false ↔ (pl.dropWhile dig).dropWhile isH ≠ [] := empty_iff _
theorem rowsS_iff (pl : Bs) : rowsS pl = false ↔ ((pl.dropWhile isH).dropWhile isA).dropWhile isH ≠ [] := empty_iff _
/-- A text of signs. -/
theorem sig_counts {pl : Bs} (h : ((pl.dropWhile isH).dropWhile isA).dropWhile isH = []) : pl.count 64 = sp isA (pl.dropWhile isH) ∧ (pl.dropWhile isH).length = sp isA (pl.dropWhile isH) + sp isH ((pl.dropWhile isH).dropWhile isA) := by
  refine ⟨?_, ?_⟩
  · rw [count_A, countP_dw isH isA pl (fun c hc => (isH_not hc).1)]
    exact (countP_row isA isH _ (fun c hc => (isH_not hc).1) h).2
  · have h1 := sp_drop isA (pl.dropWhile isH)
    rw [sp_all h]
    exact h1.symm
theorem sig_pos {pl : Bs} (h : ((pl.dropWhile isH).dropWhile isA).dropWhile isH = []) (hm : 64 ∈ pl) : sp isA (pl.dropWhile isH) ≠ 0 := by
  rw [← (sig_counts h).1]
  have := (count_pos 64 pl).2 hm
  omega
/-- The stage of the counts. -/
theorem g16_is (p : NP) (sci point : Bool) (k : Nat) (pl fr : Bs) (hz : p = ⟨0, 0, 0, 0, 0, 0, p.prim, p.sec, [], sci, p.minExp, p.plus⟩) (hf : point = false → fr = []) :
    g16 p sci point k pl fr = if countsE point sci pl fr ≠ 0 then (np0, countsE point sci pl fr) else g18 (fieldsN sci p.plus p.minExp p.prim p.sec pl fr) sci k pl := by
  unfold g16 countsE
  by_cases h0 : pl ++ fr = []
  · rw [if_pos h0, if_pos h0]; rfl
  rw [if_neg h0, if_neg h0]
  by_cases h1 : (64 : UInt8) ∈ pl ++ fr
  · rw [if_pos ((count_pos _ _).2 h1), if_pos h1]
    unfold gSig
    by_cases h2 : point = true ∨ pl.any dig = true
    · have e0 : sigE point pl = 6 := by unfold sigE; rw [if_pos h2]
      rw [if_pos (by rw [countP_pos]; exact h2), e0]; rfl
    rw [if_neg (by rw [countP_pos]; exact h2)]
    have hp : point = false := by
      cases point
      · rfl
      · exact absurd (.inl rfl) h2
    have hfr := hf hp
    subst hfr
    rw [List.append_nil] at h1
    by_cases h3 : ((pl.dropWhile isH).dropWhile isA).dropWhile isH = []
    · have e0 : sigE point pl = 0 := by unfold sigE; rw [if_neg h2, if_neg (by intro h4; rcases h4 with h4 | h4; exact h4 h3; exact sig_pos h3 h1 h4)]
      rw [if_neg (by rw [rowsS_iff]; exact not_not_intro h3), e0, if_neg (by decide)]
      have e : pSigR p pl = fieldsN sci p.plus p.minExp p.prim p.sec pl [] := by
        unfold pSigR fieldsN
        rw [if_pos (by rw [List.append_nil]; exact h1), (sig_counts h3).2, (sig_counts h3).1]
        conv => lhs; rw [hz]
      rw [e]
    · have e0 : sigE point pl = 4 := by unfold sigE; rw [if_neg h2, if_pos (.inl h3)]
      rw [if_pos ((rowsS_iff pl).2 h3), e0]; rfl
  · rw [if_neg (by rw [count_pos]; exact h1), if_neg h1]
    unfold gDig digE
    by_cases h2 : (pl.dropWhile isH).dropWhile dig ≠ [] ∨ (fr.dropWhile dig).dropWhile isH ≠ []
    · rw [if_pos (by rw [rowsI_iff, rowsF_iff]; exact h2), if_pos h2]; rfl
    rw [if_neg (by rw [rowsI_iff, rowsF_iff]; exact h2), if_neg h2]
    simp only [not_or, ne_eq, Decidable.not_not] at h2
    obtain ⟨r1, r2⟩ := h2
    rw [inc_is r1 r2]
    have c1 : pl.countP dig = sp dig (pl.dropWhile isH) := by
      rw [countP_dw isH dig pl (fun c hc => (isH_not hc).2.1)]
      unfold sp
      rw [dw_nil r1, List.countP_eq_length]
      exact fun c hc => by rw [← dw_nil r1] at hc; exact tw_all dig _ c hc
    have c2 : fr.countP dig = sp dig fr := (countP_row dig isH fr (fun c hc => (isH_not hc).2.1) r2).2
    have c3 : (fr.countP dig < fr.length) ↔ 0 < sp isH (fr.dropWhile dig) := by
      rw [c2]
      have k1 := sp_drop dig fr
      have k2 := sp_all r2
      omega
    by_cases h3 : incN pl fr ≠ [] ∧ (0 < sp isH (fr.dropWhile dig) ∨ sci = true)
    · rw [if_pos ⟨h3.1, h3.2.imp c3.2 id⟩, if_pos h3]; rfl
    rw [if_neg (fun h4 => h3 ⟨h4.1, h4.2.imp c3.1 id⟩), if_neg h3, if_neg (by decide)]
    have e : pDigR p sci pl fr = fieldsN sci p.plus p.minExp p.prim p.sec pl fr := by
      unfold pDigR fieldsN
      rw [if_neg h1, inc_is r1 r2, c1, c2]
      conv => lhs; rw [hz]
    rw [e]
theorem lens_zero (l : List Bs) : 0 ∈ l.map List.length ↔ [] ∈ l := by
  rw [List.mem_map]
  constructor
  · rintro ⟨x, hx, h0⟩
    rwa [List.eq_nil_of_length_eq_zero h0] at hx
  · intro h
    exact ⟨[], h, rfl⟩
theorem lens_get (l : List Bs) (i : Nat) : (l.map List.length).getD i 0 = (l.getD i []).length := by
  simp only [List.getD, List.getElem?_map]
  cases l[i]? <;> rfl
theorem pGrp_is (p : NP) (l : List Bs) (h1 : p.prim = 0) (h2 : p.sec = 0) : pGrp p (l.map List.length) = { p with prim := primN l, sec := secN l } := by
  unfold pGrp secN primN
  rw [List.length_map, lens_get, lens_get]
  by_cases h : 1 < l.length
  · rw [if_pos h, if_pos h]
  · rw [if_neg h, if_neg h, if_neg (by omega)]
    cases p with
    | mk a b c d e f g h i j k l =>
      have h1' : g = 0 := h1
      have h2' : h = 0 := h2
      subst h1'; subst h2'; rfl
theorem count46 (s : Bs) : (1 < s.count 46 ↔ 0 < (cutC 46 s).2.1.count 46) := by
  have h := cutC_is 46 s
  have h0 : (cutC 46 s).1.count 46 = 0 := List.count_eq_zero.2 h.1
  have h2 := h.2
  split at h2
  · have e : s.count 46 = (cutC 46 s).1.count 46 + ((cutC 46 s).2.1.count 46 + 1) := by
      conv => lhs; rw [h2, List.count_append, List.count_cons_self]
    omega
  · rw [h2.2]
    have : s.count 46 = 0 := by rw [h2.1]; exact h0
    rw [this]; simp
/-- All stages: the reference says what a number part says. -/
theorem g0_is (s : Bs) : g0 s = numN s := by
  have key : ∀ (p : NP) (sci : Bool), p = ⟨0, 0, 0, 0, 0, 0, 0, 0, [], sci, p.minExp, p.plus⟩ → sci = sciN s → p.minExp = (if sciN s then sp is0 (expX (expN s)) else 0) → p.plus = (sciN s && isPlus (expN s)) → expE (sciN s) (expN s) = 0 → g4 p sci (bodyN s) = numN s := by
    intro p sci hp hsci hme hpl hE
    unfold g4 g5
    change (if (bodyN s).any odd = true then (np0, 4) else if 0 < (fracN s).count 46 ∨ pointN s = true ∧ fracN s = [] then (np0, 4) else if 0 < (fracN s).count 44 then (np0, 5) else g12 p sci (pointN s) ((splitC 44 (wholeN s)).map List.length) (plN s) (fracN s)) = numN s
    have c46 : (1 < (bodyN s).count 46 ↔ 0 < (fracN s).count 46) := count46 (bodyN s)
    by_cases a1 : (bodyN s).any odd = true
    · have e : partsE (bodyN s) = 4 := by unfold partsE; rw [if_pos (.inl a1)]
      rw [if_pos a1, num_parts hE (by rw [e]; decide), e]
    rw [if_neg a1]
    by_cases a2 : 0 < (fracN s).count 46 ∨ pointN s = true ∧ fracN s = []
    · have e : partsE (bodyN s) = 4 := by
        unfold partsE
        by_cases b : (bodyN s).any odd = true ∨ 1 < (bodyN s).count 46
        · rw [if_pos b]
        · rw [if_neg b]
          rcases a2 with a2 | a2
          · exact absurd (.inr (c46.2 a2)) b
          · exact if_pos a2
      rw [if_pos a2, num_parts hE (by rw [e]; decide), e]
    rw [if_neg a2]
    have hP : partsE (bodyN s) = 0 := by
      unfold partsE
      rw [if_neg (by intro b; rcases b with b | b; exact a1 b; exact a2 (.inl (c46.1 b)))]
      exact if_neg (fun b => a2 (.inr b))
    by_cases a3 : 0 < (fracN s).count 44
    · have a3' := (count_pos _ _).1 a3
      have e : groupsE (wholeN s) (fracN s) = 5 := by
        unfold groupsE
        rw [if_pos a3']
        split <;> rfl
      rw [if_pos a3, num_groups hE hP (by rw [e]; decide), e]
    rw [if_neg a3]
    rw [count_pos] at a3
    unfold g12
    rw [List.length_map]
    have lz := lens_zero (splitC 44 (wholeN s))
    by_cases a4 : 1 < (splitC 44 (wholeN s)).length ∧ [] ∈ splitC 44 (wholeN s)
    · have e : groupsE (wholeN s) (fracN s) = 5 := by unfold groupsE; rw [if_pos a4]
      rw [if_pos ⟨a4.1, lz.2 a4.2⟩, num_groups hE hP (by rw [e]; decide), e]
    rw [if_neg (fun b => a4 ⟨b.1, lz.1 b.2⟩)]
    have hG : groupsE (wholeN s) (fracN s) = 0 := by unfold groupsE; rw [if_neg a4, if_neg a3]
    have z1 : p.prim = 0 := by rw [hp]
    have z2 : p.sec = 0 := by rw [hp]
    rw [pGrp_is p _ z1 z2]
    rw [g16_is _ sci (pointN s) _ (plN s) (fracN s) (by conv => lhs; rw [hp]) frac_nil, hsci]
    by_cases a5 : countsE (pointN s) (sciN s) (plN s) (fracN s) = 0
    · rw [if_neg (by simp [a5]), num_mixed hE hP hG a5]
      have e : fieldsN (sciN s) p.plus p.minExp (primN (splitC 44 (wholeN s))) (secN (splitC 44 (wholeN s))) (plN s) (fracN s) = sayN s := by
        unfold sayN
        rw [hme, hpl]
      have es : (sayN s).sci = sciN s := by unfold sayN fieldsN; split <;> rfl
      have ep : (sayN s).prim = primN (splitC 44 (wholeN s)) := by unfold sayN fieldsN; split <;> rfl
      have := g18_is (sayN s) (splitC 44 (wholeN s)).length (plN s) (fun _ => by
        rw [ep]
        by_cases hl : 1 < (splitC 44 (wholeN s)).length
        · have := (flat_two _ (groupsE_is hG hl) hl).2.1
          exact ⟨fun _ => this, fun _ => hl⟩
        · unfold primN
          rw [if_neg hl]
          exact ⟨fun h => absurd h hl, fun h => by omega⟩)
      rw [es] at this
      rw [← this, ← e]
    · rw [if_pos a5, num_counts hE hP hG a5]
  unfold g0 g3
  change (if sciN s = true then if expX (expN s) = [] ∨ (expX (expN s)).dropWhile is0 ≠ [] then (np0, 4) else if 9 < (expX (expN s)).length then (np0, 8) else g4 { np0 with sci := true, minExp := (expX (expN s)).length, plus := isPlus (expN s) } true (bodyN s) else g4 np0 false (bodyN s)) = numN s
  by_cases hs : sciN s = true
  · rw [if_pos hs]
    by_cases h1 : expX (expN s) = [] ∨ (expX (expN s)).dropWhile is0 ≠ []
    · have e : expE (sciN s) (expN s) = 4 := by
        unfold expE
        rw [if_pos hs, if_pos]
        rcases h1 with h1 | h1
        · right
          rw [h1]; rfl
        · exact .inl h1
      rw [if_pos h1, num_exp (by rw [e]; decide), e]
    rw [if_neg h1]
    simp only [not_or, ne_eq, Decidable.not_not] at h1
    have hl := sp_all h1.2
    have hpos : 0 < (expX (expN s)).length := List.length_pos_iff.2 h1.1
    by_cases h2 : 9 < (expX (expN s)).length
    · have e : expE (sciN s) (expN s) = 8 := by
        unfold expE
        rw [if_pos hs, if_neg (by intro b; rcases b with b | b; exact b h1.2; omega), if_pos (by omega)]
      rw [if_pos h2, num_exp (by rw [e]; decide), e]
    rw [if_neg h2]
    refine key _ true rfl hs.symm ?_ ?_ ?_
    · rw [if_pos hs]; exact hl.symm
    · rw [hs]; rfl
    · unfold expE
      rw [if_pos hs, if_neg (by intro b; rcases b with b | b; exact b h1.2; omega), if_neg (by omega)]
  · rw [if_neg hs]
    have hs' : sciN s = false := by simpa using hs
    refine key _ false rfl hs'.symm ?_ ?_ ?_
    · rw [if_neg hs]; rfl
    · rw [hs']; rfl
    · unfold expE
      rw [if_neg hs]
end Go.Proofs.Ytkgdpgoianimjaa.N
