/- Layer 14, the plain side: items of tokens, tokens of items, and back. -/
import Derived.Test.YtcenacecegleeaaDoorPT
import Derived.Test.YtcenacecegleeaaDoorFA
import Derived.Test.YtcenacecegleeaaDoorFR
import Derived.Test.YtcenacecegleeaaDoorPrint5
import Derived.Test.YtcenacecegleeaaDoorPrint6
import Derived.Test.YtcenacecegleeaaDoorPrint8
import Derived.Test.YtcenacecegleeaaDoorPrint9
namespace Go.Proofs.YtcenacecegleeaaDoor.Pure
open Go.RowKit Go.Lib Go.Proofs.YtcenacecegleeaaDoor.Print Go.Proofs.YtcenacecegleeaaDoor.U Go.Proofs.YtcenacecegleeaaDoor.Utf Go.Proofs.YtcenacecegleeaaDoorW.PrintWords
set_option linter.unusedVariables false
set_option linter.unusedSimpArgs false

theorem answers14 : figureheadlaw14_answers.f = some true := by kernel_rfl
theorem refNeeds_val (r : Int) : figureheadref13_Needs.f r = some (needsB r) := by
  unfold figureheadref13_Needs.f needsB
  rw [refSign_val, refMark_val]
  simp only [Option.bind_some]
  have hs := sgn_range r
  by_cases h : sgn r = 0
  · rw [if_neg (by omega), decide_eq_false (fun hh => hh h), Bool.false_or]
    by_cases h1 : markB r = true
    · rw [if_pos h1, h1]; rfl
    · have h0 : markB r = false := by simpa using h1
      rw [if_neg h1, h0, Bool.false_or]
      by_cases h2 : r = 69
      · rw [if_pos h2, h2]; rfl
      · rw [if_neg h2, beq_eq_false_iff_ne.2 h2, Bool.false_or]
  · rw [if_pos (by omega), decide_eq_true h]; rfl
theorem rdI_at (l : List S43) (i : Nat) (h : i < l.length) : rd_T43 l (i : Int) = l[i] := by
  unfold rd_T43
  rw [Int.toNat_natCast, List.getD_eq_getElem?_getD, List.getElem?_eq_getElem h]
  rfl
theorem refItems_ev (l : List S36) (hb : l.length ≤ 1000000) : Ev (fun k => figureheadref13_Items.f l) (itemsGo l []) := mk (fun _ => by unfold figureheadref13_Items.f; rw [if_pos (by omega)])
def keyI (x : S43) : Int × Int := (x.f0, x.f1)
theorem sameI_l0 (l m : List S43) (hl : l.length = m.length) (hb : l.length ≤ 1000000000) : ∀ (d i : Nat), i + d = l.length → Ev (fun k => figureheadref13_SameItems.l0 k l m (i : Int)) (decide ((l.drop i).map keyI = (m.drop i).map keyI))
  | 0, i, hd => by
    refine succ ?_
    simp only [figureheadref13_SameItems.l0]
    rw [List.drop_of_length_le (by omega), List.drop_of_length_le (by omega)]
    exact neg (by omega) (Ev.now _)
  | d + 1, i, hd => by
    refine succ ?_
    simp only [figureheadref13_SameItems.l0]
    refine pos (by omega) (pos (by omega) (pos (by omega) ?_))
    have d1 : l.drop i = l[i]'(by omega) :: l.drop (i + 1) := List.drop_eq_getElem_cons (by omega)
    have d2 : m.drop i = m[i]'(by omega) :: m.drop (i + 1) := List.drop_eq_getElem_cons (by omega)
    rw [rdI_at l i (by omega), rdI_at m i (by omega), w64 (by omega) (by omega), d1, d2, List.map_cons, List.map_cons]
    by_cases h : (l[i]'(by omega)).f0 = (m[i]'(by omega)).f0
    · refine pos h ?_
      by_cases h2 : (l[i]'(by omega)).f1 = (m[i]'(by omega)).f1
      · have hk : keyI (l[i]'(by omega)) = keyI (m[i]'(by omega)) := Prod.ext h h2
        refine pos h2 ?_
        have := sameI_l0 l m hl hb d (i + 1) (by omega)
        rw [show decide (keyI (l[i]'(by omega)) :: (l.drop (i + 1)).map keyI = keyI (m[i]'(by omega)) :: (m.drop (i + 1)).map keyI) = decide ((l.drop (i + 1)).map keyI = (m.drop (i + 1)).map keyI) from decide_eq_decide.2 ⟨fun e => (List.cons.inj e).2, fun e => by rw [hk, e]⟩]
        simpa using this
      · refine neg h2 ?_
        rw [decide_eq_false (fun e => h2 (congrArg Prod.snd (List.cons.inj e).1))]
        exact Ev.now _
    · refine neg h ?_
      rw [decide_eq_false (fun e => h (congrArg Prod.fst (List.cons.inj e).1))]
      exact Ev.now _
theorem sameI_ev (l m : List S43) (hb : l.length ≤ 1000000000) : Ev (fun k => figureheadref13_SameItems.f k l m) (decide (l.map keyI = m.map keyI)) := by
  simp only [figureheadref13_SameItems.f]
  by_cases h : l.length = m.length
  · refine pos (by omega) ?_
    have := sameI_l0 l m h hb l.length 0 (by omega)
    simpa using this
  · refine neg (by omega) ?_
    rw [decide_eq_false (fun e => h (by have := congrArg List.length e; simpa using this))]
    exact Ev.now _
theorem sameI_true (l : List S43) (hb : l.length ≤ 1000000000) : Ev (fun k => figureheadref13_SameItems.f k l l) true := by
  have := sameI_ev l l hb
  simpa using this
theorem itemsGo_len : ∀ (l : List S36) (acc : List S43), (itemsGo l acc).1.length ≤ acc.length + l.length
  | [], acc => by
    simp only [itemsGo]
    split <;> simp
  | x :: t, acc => by
    simp only [itemsGo]
    cases itemT x with
    | none => simp
    | some a =>
      have := itemsGo_len t (acc ++ [a])
      simp only [List.length_append, List.length_cons, List.length_nil] at this ⊢
      omega
theorem items_val (l : List S36) (h : l.length ≤ 1000000000) : affix_Items.f l = some (itemsGo l []) := by
  unfold affix_Items.f
  rw [if_pos h]
theorem tokens_val (l : List S43) (h : l.length ≤ 1000000000) : affix_Tokens.f l = some ((toksT l).getD []) := by
  unfold affix_Tokens.f
  rw [if_pos h]
/-! ### items that may be -/
/-- May an item be? -/
def mayI (x : S43) : Bool := (tokT x).isSome
theorem mayI_iff (x : S43) : mayI x = true ↔ (x.f0 = 1 ∧ Lib.validRune x.f1 = true) ∨ (2 ≤ x.f0 ∧ x.f0 ≤ 6 ∧ x.f1 = 0) := by
  unfold mayI tokT
  by_cases h1 : x.f0 = 1 ∧ Lib.validRune x.f1 = true
  · rw [if_pos h1]; simp [h1]
  · rw [if_neg h1]
    by_cases h2 : 2 ≤ x.f0 ∧ x.f0 ≤ 6 ∧ x.f1 = 0
    · rw [if_pos h2]; simp [h2]
    · rw [if_neg h2]; simp only [Option.isSome_none, Bool.false_eq_true, false_iff]; exact fun h => h.elim h1 h2
/-- The token of an item that may be. -/
def tokI (x : S43) : S36 := (tokT x).getD ⟨0, false, 0⟩
theorem toksT_may : ∀ (l : List S43), toksT l = if l.all mayI = true then some (l.map tokI) else none
  | [] => rfl
  | x :: t => by
    have ih := toksT_may t
    simp only [toksT]
    rw [ih]
    cases hx : tokT x with
    | none =>
      have hm : mayI x = false := by unfold mayI; rw [hx]; rfl
      have h0 : (x :: t).all mayI = false := by rw [List.all_cons, hm]; rfl
      rw [h0]
      rfl
    | some a =>
      have hm : mayI x = true := by unfold mayI; rw [hx]; rfl
      have hk : tokI x = a := by unfold tokI; rw [hx]; rfl
      have h0 : (x :: t).all mayI = t.all mayI := by rw [List.all_cons, hm, Bool.true_and]
      rw [h0]
      cases t.all mayI with
      | true => rw [List.map_cons, hk]; rfl
      | false => rfl
theorem may_l0 (l : List S43) (hb : l.length ≤ 1000000) : ∀ (d i : Nat), i + d = l.length → Ev (fun k => figureheadref13_MayItems.l0 k l (i : Int)) ((l.drop i).all mayI)
  | 0, i, hd => by
    refine succ ?_
    simp only [figureheadref13_MayItems.l0]
    rw [List.drop_of_length_le (by omega)]
    exact neg (by omega) (Ev.now _)
  | d + 1, i, hd => by
    refine succ ?_
    simp only [figureheadref13_MayItems.l0]
    have hi : i < l.length := by omega
    rw [rdI_at l i hi, List.drop_eq_getElem_cons hi, List.all_cons, refScalar_val, w64 (by omega) (by omega)]
    simp only [Option.bind_some]
    have ih : Ev (fun k => figureheadref13_MayItems.l0 k l ((i : Int) + 1)) ((l.drop (i + 1)).all mayI) := by
      have := may_l0 l hb d (i + 1) (by omega)
      simpa using this
    have hm := mayI_iff l[i]
    have hno : ¬ ((l[i].f0 = 1 ∧ Lib.validRune l[i].f1 = true) ∨ (2 ≤ l[i].f0 ∧ l[i].f0 ≤ 6 ∧ l[i].f1 = 0)) → mayI l[i] = false := fun h => by
      have := mt hm.1 h
      simpa using this
    refine pos (by omega) (pos (by omega) ?_)
    by_cases h1 : l[i].f0 < 1
    · rw [hno (fun h => by omega), Bool.false_and]; exact pos h1 (Ev.now _)
    refine neg h1 ?_
    by_cases h2 : l[i].f0 > 6
    · rw [hno (fun h => by omega), Bool.false_and]; exact pos h2 (Ev.now _)
    refine neg h2 ?_
    by_cases h3 : l[i].f0 > 1
    · refine pos h3 ?_
      by_cases h4 : l[i].f1 = 0
      · rw [hm.2 (.inr ⟨by omega, by omega, h4⟩), Bool.true_and]
        exact pos h4 (neg (by omega) ih)
      · rw [hno (fun h => h.elim (fun h => by omega) (fun h => h4 h.2.2)), Bool.false_and]
        exact neg h4 (Ev.now _)
    · refine neg h3 (pos (by omega) ?_)
      by_cases hv : Lib.validRune l[i].f1 = true
      · rw [hm.2 (.inl ⟨by omega, hv⟩), Bool.true_and]
        exact pos hv ih
      · rw [hno (fun h => h.elim (fun h => hv h.2) (fun h => by omega)), Bool.false_and]
        exact neg hv (Ev.now _)
theorem may_ev (l : List S43) (hb : l.length ≤ 1000000) : Ev (fun k => figureheadref13_MayItems.f k l) (l.all mayI) := by
  simp only [figureheadref13_MayItems.f]
  have := may_l0 l hb l.length 0 (by omega)
  simpa using this
theorem rd_signs (x : S43) (h1 : 2 ≤ x.f0) (h2 : x.f0 ≤ 6) : rd ([45, 43, 37, 8240, 164] : List Int) (x.f0 - 2) = sgnCh (x.f0 - 2).toNat := rfl
theorem refTokens_l0 (l : List S43) (hm : ∀ x ∈ l, mayI x = true) (hb : l.length ≤ 1000000) : ∀ (d i : Nat) (acc : List S36), i + d = l.length → acc = (l.take i).map tokI → Ev (fun k => figureheadref13_Tokens.l0 k l acc (i : Int)) (l.map tokI)
  | 0, i, acc, hd, ha => by
    refine succ ?_
    simp only [figureheadref13_Tokens.l0]
    rw [List.take_of_length_le (by omega)] at ha
    rw [ha]
    exact neg (by omega) (Ev.now _)
  | d + 1, i, acc, hd, ha => by
    refine succ ?_
    simp only [figureheadref13_Tokens.l0]
    have hi : i < l.length := by omega
    have hal : acc.length = i := by rw [ha, List.length_map, List.length_take]; omega
    have ih : ∀ a, a = tokI l[i] → Ev (fun k => figureheadref13_Tokens.l0 k l (acc ++ [a]) ((i : Int) + 1)) (l.map tokI) := fun a e => by
      have := refTokens_l0 l hm hb d (i + 1) (acc ++ [a]) (by omega) (by rw [List.take_succ_eq_append_getElem hi, List.map_append, ← ha, e]; rfl)
      simpa using this
    have hx := (mayI_iff l[i]).1 (hm l[i] (List.getElem_mem _))
    rw [rdI_at l i hi, refNeeds_val, w64 (x := (i : Int) + 1) (by omega) (by omega)]
    simp only [Option.bind_some]
    refine pos (by omega) (pos (by omega) ?_)
    rcases hx with hx | hx
    · have e : (⟨l[i].f1, needsB l[i].f1, 0⟩ : S36) = tokI l[i] := by unfold tokI tokT; rw [if_pos hx]; rfl
      exact neg (by omega) (pos (by omega) (ih _ e))
    · have e : (⟨sgnCh (l[i].f0 - 2).toNat, false, 0⟩ : S36) = tokI l[i] := by unfold tokI tokT; rw [if_neg (fun h => by omega), if_pos hx]; rfl
      rw [w64 (x := l[i].f0 - 2) (by omega) (by omega), rd_signs l[i] hx.1 hx.2.1]
      exact pos (by omega) (pos (by omega) (pos (by simp only [List.length_cons, List.length_nil]; omega) (pos (by omega) (ih _ e))))
theorem refTokens_ev (l : List S43) (hm : ∀ x ∈ l, mayI x = true) (hb : l.length ≤ 1000000) : Ev (fun k => figureheadref13_Tokens.f k l) (l.map tokI) := by
  simp only [figureheadref13_Tokens.f]
  have := refTokens_l0 l hm hb l.length 0 [] (by omega) rfl
  simpa using this
/-! ### there and back -/
theorem sgnCh_facts (i : Nat) (hi : i < 5) : Lib.validRune (sgnCh i) = true ∧ sgnCh i ≠ 39 ∧ markB (sgnCh i) = false ∧ sgn (sgnCh i) = (i : Int) + 2 := by
  match i, hi with
  | 0, _ => decide +kernel
  | 1, _ => decide +kernel
  | 2, _ => decide +kernel
  | 3, _ => decide +kernel
  | 4, _ => decide +kernel
theorem tokI_facts (x : S43) (h : mayI x = true) : okT (tokI x) = true ∧ (tokI x).f2 = 0 ∧ itemT (tokI x) = some x := by
  rcases (mayI_iff x).1 h with hx | hx
  · have e : tokI x = ⟨x.f1, needsB x.f1, 0⟩ := by unfold tokI tokT; rw [if_pos hx]; rfl
    rw [e]
    have h39 : x.f1 = 39 → needsB x.f1 = true := fun h => by rw [h]; decide +kernel
    refine ⟨?_, rfl, ?_⟩
    · unfold okT
      rw [hx.2]
      by_cases h9 : x.f1 = 39
      · rw [h39 h9]; rfl
      · simp [h9]
    · unfold itemT
      have hx1 : (⟨1, x.f1⟩ : S43) = x := by obtain ⟨a, b⟩ := x; simp only at hx ⊢; rw [hx.1]
      by_cases hn : needsB x.f1 = true
      · rw [if_pos hn, hx1]
      · have hn0 : needsB x.f1 = false := by simpa using hn
        have hn2 := hn0
        unfold needsB at hn2
        simp only [Bool.or_eq_false_iff, decide_eq_false_iff_not, Decidable.not_not] at hn2
        rw [if_neg hn, if_neg (by rw [hn2.1.1.2]; simp), if_pos hn2.1.1.1, hx1]
  · have e : tokI x = ⟨sgnCh (x.f0 - 2).toNat, false, 0⟩ := by unfold tokI tokT; rw [if_neg (fun h => by omega), if_pos hx]; rfl
    rw [e]
    have hf := sgnCh_facts (x.f0 - 2).toNat (by omega)
    refine ⟨?_, rfl, ?_⟩
    · unfold okT
      rw [hf.1]
      simp [hf.2.1]
    · unfold itemT
      have hx1 : (⟨sgn (sgnCh (x.f0 - 2).toNat), 0⟩ : S43) = x := by
        obtain ⟨a, b⟩ := x
        simp only at hx hf ⊢
        rw [hf.2.2.2, hx.2.2]
        congr 1
        omega
      rw [if_neg (by simp), if_neg (by rw [hf.2.2.1]; simp), if_neg (by rw [hf.2.2.2]; omega), hx1]
theorem itemT_key (x y : S36) (h : keyT x = keyT y) : itemT x = itemT y := by
  have h0 : x.f0 = y.f0 := congrArg Prod.fst h
  have h1 : x.f1 = y.f1 := congrArg Prod.snd h
  unfold itemT
  rw [h0, h1]
theorem itemsGo_back : ∀ (l : List S43) (k : List S36) (acc : List S43), (∀ x ∈ l, mayI x = true) → k.map keyT = (l.map tokI).map keyT → (acc ++ l).length ≤ 40 → itemsGo k acc = (acc ++ l, 0, 0)
  | [], k, acc, hm, hk, hl => by
    have : k = [] := by simpa using hk
    rw [this, List.append_nil]
    simp only [itemsGo]
    rw [if_neg (by simp at hl; omega)]
  | x :: t, [], acc, hm, hk, hl => by simp at hk
  | x :: t, y :: u, acc, hm, hk, hl => by
    rw [List.map_cons, List.map_cons, List.map_cons] at hk
    have h1 := (List.cons.inj hk).1
    simp only [itemsGo]
    rw [itemT_key y (tokI x) h1, (tokI_facts x (hm x (by simp))).2.2]
    simp only
    rw [itemsGo_back t u (acc ++ [x]) (fun z hz => hm z (by simp [hz])) (List.cons.inj hk).2 (by simpa using hl)]
    simp
end Go.Proofs.YtcenacecegleeaaDoor.Pure
