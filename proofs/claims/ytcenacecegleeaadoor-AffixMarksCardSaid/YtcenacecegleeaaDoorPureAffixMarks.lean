/- The law AffixMarks, the plain side: items, of which one is a mark that has no quotes, are none; with quotes all are literal. -/
import Derived.Test.YtcenacecegleeaaDoorPA14
import Derived.Test.YtcenacecegleeaaDoorPrint13
namespace Go.Proofs.YtcenacecegleeaaDoor.Pure
open Go.RowKit Go.Lib Go.Proofs.YtcenacecegleeaaDoor.Print Go.Proofs.YtcenacecegleeaaDoor.U Go.Proofs.YtcenacecegleeaaDoor.Utf Go.Proofs.YtcenacecegleeaaDoorW.PrintWords
set_option linter.unusedVariables false
set_option linter.unusedSimpArgs false

theorem intsA_rd (l : List Int) (i : Nat) (h : i < l.length) : rd l (i : Int) = l[i] := by
  rw [rd_eq, List.getD_eq_getElem?_getD, Int.toNat_natCast, List.getElem?_eq_getElem h]; rfl
/-- The tokens that the law makes. -/
def mkT (q : Bool) : List Int → Int → List S36
  | [], _ => []
  | r :: t, i => ⟨r, q, i + 5⟩ :: mkT q t (i + 1)
/-- The first mark's place. -/
def mkAt (q : Bool) : List Int → Int → Int
  | [], _ => -1
  | r :: t, i => if q = false ∧ markB r = true then i + 5 else mkAt q t (i + 1)
theorem mkT_len (q : Bool) : ∀ (l : List Int) (i : Int), (mkT q l i).length = l.length
  | [], i => rfl
  | r :: t, i => by simp [mkT, mkT_len q t]
theorem mkT_snoc (q : Bool) : ∀ (l : List Int) (i : Int) (r : Int), mkT q (l ++ [r]) i = mkT q l i ++ [⟨r, q, i + l.length + 5⟩]
  | [], i, r => by simp [mkT]
  | x :: t, i, r => by
    simp only [List.cons_append, mkT]
    rw [mkT_snoc q t (i + 1) r, show i + 1 + (t.length : Int) + 5 = i + ((x :: t).length : Int) + 5 by simp; omega]
theorem mkAt_range (q : Bool) : ∀ (l : List Int) (i : Int), 0 ≤ i → mkAt q l i = -1 ∨ 5 ≤ mkAt q l i
  | [], i, h => .inl rfl
  | r :: t, i, h => by
    simp only [mkAt]
    split
    · omega
    · exact mkAt_range q t (i + 1) (by omega)
theorem mkAt_snoc (q : Bool) : ∀ (l : List Int) (i : Int) (r : Int), 0 ≤ i → mkAt q (l ++ [r]) i = if mkAt q l i < 0 then (if q = false ∧ markB r = true then i + l.length + 5 else -1) else mkAt q l i
  | [], i, r, h => by simp [mkAt]
  | x :: t, i, r, h => by
    have h5 : i + 1 + (t.length : Int) + 5 = i + ((x :: t).length : Int) + 5 := by simp; omega
    have e0 : ∀ m, mkAt q (x :: m) i = if q = false ∧ markB x = true then i + 5 else mkAt q m (i + 1) := fun m => rfl
    rw [List.cons_append, e0, e0]
    by_cases hx : q = false ∧ markB x = true
    · rw [if_pos hx, if_pos hx, if_neg (by omega)]
    · rw [if_neg hx, if_neg hx, mkAt_snoc q t (i + 1) r (by omega), h5]
/-- What the items of these tokens are. -/
theorem items_mk (q : Bool) : ∀ (l : List Int) (i : Int) (acc : List S43), 0 ≤ i → acc.length + l.length ≤ 40 →
    (0 ≤ mkAt q l i → itemsGo (mkT q l i) acc = ([], 4, mkAt q l i)) ∧ (mkAt q l i < 0 → ∃ b, itemsGo (mkT q l i) acc = (acc ++ b, 0, 0) ∧ b.map (fun x => x.f0 == 1) = l.map (fun r => q || sgn r == 0))
  | [], i, acc, h, hl => by
    simp only [mkT, mkAt, itemsGo]
    rw [if_neg (by simp at hl; omega)]
    exact ⟨fun h => by omega, fun _ => ⟨[], by simp, rfl⟩⟩
  | r :: t, i, acc, h, hl => by
    simp only [mkT, mkAt, itemsGo]
    simp only [List.length_cons] at hl
    have hs := sgn_range r
    cases q with
    | true =>
      rw [if_neg (by simp)]
      have e : itemT ⟨r, true, i + 5⟩ = some ⟨1, r⟩ := by unfold itemT; rw [if_pos rfl]
      rw [e]
      obtain ⟨ih1, ih2⟩ := items_mk true t (i + 1) (acc ++ [⟨1, r⟩]) (by omega) (by simp; omega)
      refine ⟨ih1, fun hn => ?_⟩
      obtain ⟨b, hb, hb2⟩ := ih2 hn
      exact ⟨⟨1, r⟩ :: b, by simp only; rw [hb]; simp, by rw [List.map_cons, List.map_cons, hb2]; simp⟩
    | false =>
      by_cases hm : markB r = true
      · rw [if_pos ⟨rfl, hm⟩]
        have e : itemT ⟨r, false, i + 5⟩ = none := by unfold itemT; rw [if_neg (by simp), if_pos hm]
        rw [e]
        exact ⟨fun _ => rfl, fun hn => by omega⟩
      · rw [if_neg (fun h => hm h.2)]
        by_cases h0 : sgn r = 0
        · have e : itemT ⟨r, false, i + 5⟩ = some ⟨1, r⟩ := by unfold itemT; rw [if_neg (by simp), if_neg hm, if_pos h0]
          rw [e]
          obtain ⟨ih1, ih2⟩ := items_mk false t (i + 1) (acc ++ [⟨1, r⟩]) (by omega) (by simp; omega)
          refine ⟨ih1, fun hn => ?_⟩
          obtain ⟨b, hb, hb2⟩ := ih2 hn
          exact ⟨⟨1, r⟩ :: b, by simp only; rw [hb]; simp, by rw [List.map_cons, List.map_cons, hb2]; simp [h0]⟩
        · have e : itemT ⟨r, false, i + 5⟩ = some ⟨sgn r, 0⟩ := by unfold itemT; rw [if_neg (by simp), if_neg hm, if_neg h0]
          rw [e]
          obtain ⟨ih1, ih2⟩ := items_mk false t (i + 1) (acc ++ [⟨sgn r, 0⟩]) (by omega) (by simp; omega)
          refine ⟨ih1, fun hn => ?_⟩
          obtain ⟨b, hb, hb2⟩ := ih2 hn
          have h1 : (sgn r == 1) = false := beq_eq_false_iff_ne.2 (by omega)
          have h2 : (sgn r == 0) = false := beq_eq_false_iff_ne.2 h0
          exact ⟨⟨sgn r, 0⟩ :: b, by simp only; rw [hb]; simp, by rw [List.map_cons, List.map_cons, hb2]; simp [h1, h2]⟩
theorem marks_l1 (l : List Int) (q : Bool) (x : List S43) (n : Nat) (hn : n ≤ 40) (hx : x.map (fun x => x.f0 == 1) = (l.take n).map (fun r => q || sgn r == 0)) (hnl : n ≤ l.length) : ∀ (d i : Nat), i + d = n → Ev (fun k => figureheadlaw14_AffixMarks.l1 k l q x (i : Int)) true
  | 0, i, hd => by
    have hxl : x.length = n := by have := congrArg List.length hx; simp at this; omega
    refine succ ?_
    simp only [figureheadlaw14_AffixMarks.l1]
    rw [answers14]
    exact neg (by omega) (Ev.now _)
  | d + 1, i, hd => by
    have hxl : x.length = n := by have := congrArg List.length hx; simp at this; omega
    refine succ ?_
    simp only [figureheadlaw14_AffixMarks.l1]
    have hi : i < x.length := by omega
    have hil : i < l.length := by omega
    have he : (x[i].f0 == 1) = (q || sgn l[i] == 0) := by
      have := congrArg (·[i]?) hx
      simpa [List.getElem?_map, List.getElem?_eq_getElem hi, List.getElem?_take, List.getElem?_eq_getElem hil, show i < n by omega] using this
    rw [rdI_at x i hi, intsA_rd l i hil, refSign_val, he, w64 (by omega) (by omega)]
    simp only [Option.bind_some]
    have ih := marks_l1 l q x n hn hx hnl d (i + 1) (by omega)
    refine pos (by omega) (pos (by omega) ?_)
    cases q with
    | true => exact pos rfl (neg (by simp) (by simpa using ih))
    | false => exact neg (by simp) (pos (by omega) (neg (by simp) (by simpa using ih)))
theorem marks_end (l : List Int) (q : Bool) (n : Nat) (hn : n ≤ 40) (hnl : n ≤ l.length) (j : Int) : Ev (fun k => figureheadlaw14_AffixMarks.j1 k l q (mkT q (l.take n) 0) (mkAt q (l.take n) 0) j false) true := by
  have hl : (l.take n).length = n := by rw [List.length_take]; omega
  obtain ⟨h1, h2⟩ := items_mk q (l.take n) 0 [] (by omega) (by simp; omega)
  refine succ ?_
  simp only [figureheadlaw14_AffixMarks.j1]
  rw [items_val _ (by rw [mkT_len, hl]; omega), answers14]
  simp only [Option.bind_some]
  refine neg (by simp) ?_
  by_cases ha : 0 ≤ mkAt q (l.take n) 0
  · rw [h1 ha]
    exact pos ha (pos trivial (pos (by simp) (mk (fun _ => by simp))))
  · obtain ⟨b, hb, hb2⟩ := h2 (by omega)
    have hbl : b.length = n := by have := congrArg List.length hb2; simp at this; omega
    rw [hb]
    simp only [List.nil_append]
    refine neg ha (pos trivial ?_)
    refine succ ?_
    simp only [figureheadlaw14_AffixMarks.j2]
    refine neg (by rw [mkT_len, hl, hbl]; simp) ?_
    have := marks_l1 l q b n hn hb2 hnl n 0 (by omega)
    simpa using this
theorem marks_l0 (l : List Int) (q : Bool) : ∀ (d i : Nat), i + d = 40 → i ≤ l.length → Ev (fun k => figureheadlaw14_AffixMarks.l0 k l q (mkT q (l.take i) 0) (mkAt q (l.take i) 0) (i : Int)) true
  | 0, i, hd, hi => by
    refine succ ?_
    simp only [figureheadlaw14_AffixMarks.l0]
    by_cases h : (i : Int) < (l.length : Int)
    · refine pos h ?_
      rw [decide_eq_false (by omega)]
      exact marks_end l q i (by omega) hi _
    · exact neg h (marks_end l q i (by omega) hi _)
  | d + 1, i, hd, hi => by
    refine succ ?_
    simp only [figureheadlaw14_AffixMarks.l0]
    by_cases h : (i : Int) < (l.length : Int)
    · have hil : i < l.length := by omega
      refine pos h ?_
      rw [decide_eq_true (show (i : Int) < 40 by omega)]
      refine succ ?_
      simp only [figureheadlaw14_AffixMarks.j1]
      have htk : l.take (i + 1) = l.take i ++ [l[i]] := List.take_succ_eq_append_getElem hil
      have hli : (l.take i).length = i := by rw [List.length_take]; omega
      have ih := marks_l0 l q d (i + 1) (by omega) (by omega)
      rw [htk, mkT_snoc, mkAt_snoc q _ 0 _ (by omega), hli] at ih
      have hr := mkAt_range q (l.take i) 0 (by omega)
      have h5 : ((i : Int) + 5) = 0 + (i : Int) + 5 := by omega
      rw [intsA_rd l i hil, refMark_val, w64 (x := (i : Int) + 5) (by omega) (by omega), w64 (x := (i : Int) + 1) (by omega) (by omega), h5]
      simp only [Option.bind_some]
      refine pos trivial (pos (by omega) (pos (by omega) (pos (by rw [mkT_len, hli]; omega) ?_)))
      by_cases ha : mkAt q (l.take i) 0 < 0
      · rw [if_pos ha] at ih
        have ha1 : mkAt q (l.take i) 0 = -1 := by omega
        refine pos ha ?_
        cases q with
        | true =>
          rw [if_neg (by simp)] at ih
          rw [ha1]
          exact pos rfl (by simpa using ih)
        | false =>
          refine neg (by simp) ?_
          by_cases hm : markB l[i] = true
          · rw [if_pos ⟨rfl, hm⟩] at ih
            exact pos hm (by simpa using ih)
          · rw [if_neg (fun h => hm h.2)] at ih
            rw [ha1]
            exact neg hm (by simpa using ih)
      · rw [if_neg ha] at ih
        exact neg ha (by simpa using ih)
    · exact neg h (marks_end l q i (by omega) hi _)
theorem AffixMarks : figureheadlaw14_AffixMarks.Pure := by
  intro l q hl hw
  refine Ev.rounds (r := true) ?_
  simp only [figureheadlaw14_AffixMarks.f]
  have := marks_l0 l q 40 0 (by omega) (by omega)
  simpa [mkT, mkAt] using this
end Go.Proofs.YtcenacecegleeaaDoor.Pure
