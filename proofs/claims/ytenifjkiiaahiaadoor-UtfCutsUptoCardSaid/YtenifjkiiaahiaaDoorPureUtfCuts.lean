/- The law UtfCuts, the plain side: a right text that is cut is right, ahead of the cut and behind it, just between code points. -/
import Derived.Test.YtenifjkiiaahiaaDoorPureUtfJoins
namespace Go.Proofs.YtenifjkiiaahiaaDoor.Pure
open Go.RowKit Go.Lib Go.Proofs.YtenifjkiiaahiaaDoor.Print Go.Proofs.YtenifjkiiaahiaaDoor.U Go.Proofs.YtenifjkiiaahiaaDoor.Utf Go.Proofs.YtenifjkiiaahiaaDoorW.PrintWords
set_option linter.unusedVariables false
set_option linter.unusedSimpArgs false

/-- A place is between code points. -/
def btw : List Int → Nat → Nat → Bool
  | [], n, c => decide (n = c)
  | r :: t, n, c => decide (n = c) || btw t (n + (encodeRune r).length) c
theorem btw_cons (r : Int) (t : List Int) (n c : Nat) : btw (r :: t) n c = (decide (n = c) || btw t (n + (encodeRune r).length) c) := rfl
theorem btw_nil (n c : Nat) : btw [] n c = decide (n = c) := rfl
theorem btw_gt : ∀ (l : List Int) (n c : Nat), c < n → btw l n c = false
  | [], n, c, h => decide_eq_false (by omega)
  | r :: t, n, c, h => by
    unfold btw
    rw [btw_gt t _ c (by omega), decide_eq_false (by omega)]; rfl
theorem cut_form : ∀ (rs : List Int), All rs → ∀ (n c : Nat), n ≤ c → c ≤ n + (encAll rs).length →
    (btw rs n c = true → ∃ a b, TextForm ((encAll rs).take (c - n)) a [] ∧ TextForm ((encAll rs).drop (c - n)) b []) ∧
    (btw rs n c = false → ∃ a x b y, TextForm ((encAll rs).take (c - n)) a x ∧ x ≠ [] ∧ TextForm ((encAll rs).drop (c - n)) b y ∧ y ≠ [])
  | [], ha, n, c, h0, h1 => by
    rw [encAll_nil, List.length_nil] at h1
    have : n = c := by omega
    unfold btw
    rw [decide_eq_true this]
    exact ⟨fun _ => ⟨[], [], ⟨fun _ h => (by cases h), by simp [encAll], .inl rfl⟩, ⟨fun _ h => (by cases h), by simp [encAll], .inl rfl⟩⟩, (fun h => by cases h)⟩
  | r :: t, ha, n, c, h0, h1 => by
    have hr := ha r (by simp)
    have hat : All t := fun x hx => ha x (by simp [hx])
    rw [encAll_cons, List.length_append] at h1
    unfold btw
    by_cases e : n = c
    · rw [decide_eq_true e, show c - n = 0 by omega, Bool.true_or]
      exact ⟨fun _ => ⟨[], r :: t, ⟨fun _ h => (by cases h), by simp [encAll], .inl rfl⟩, ⟨ha, by simp, .inl rfl⟩⟩, (fun h => by cases h)⟩
    rw [decide_eq_false e, Bool.false_or, encAll_cons]
    by_cases g : c < n + (encodeRune r).length
    · rw [btw_gt t _ c g]
      refine ⟨(fun h => by cases h), fun _ => ?_⟩
      have hb := cut_bad r hr (c - n) (by omega) (by omega) (encAll t)
      refine ⟨[], (encodeRune r).take (c - n), [], (encodeRune r).drop (c - n) ++ encAll t, ⟨fun _ h => (by cases h), ?_, .inr hb.1⟩, ?_, ⟨fun _ h => (by cases h), ?_, .inr hb.2⟩, ?_⟩
      · rw [List.take_append_of_le_length (by omega), encAll_nil, List.nil_append]
      · intro h
        have := congrArg List.length h
        rw [List.length_take, List.length_nil] at this
        omega
      · rw [List.drop_append_of_le_length (by omega), encAll_nil, List.nil_append]
      · intro h
        have := congrArg List.length (List.append_eq_nil_iff.1 h).1
        rw [List.length_drop, List.length_nil] at this
        omega
    · have hk : c - n = (encodeRune r).length + (c - (n + (encodeRune r).length)) := by omega
      obtain ⟨i1, i2⟩ := cut_form t hat (n + (encodeRune r).length) c (by omega) (by omega)
      have e1 : (encodeRune r ++ encAll t).take (c - n) = encodeRune r ++ (encAll t).take (c - (n + (encodeRune r).length)) := by rw [hk, List.take_length_add_append]
      have e2 : (encodeRune r ++ encAll t).drop (c - n) = (encAll t).drop (c - (n + (encodeRune r).length)) := by rw [hk, List.drop_length_add_append]
      have one : TextForm (encodeRune r) [r] [] := ⟨fun x hx => by rw [List.mem_singleton.1 hx]; exact hr, by simp [encAll], .inl rfl⟩
      rw [e1, e2]
      constructor
      · intro h
        obtain ⟨a, b, ha, hb⟩ := i1 h
        exact ⟨[r] ++ a, b, form_app one ha, hb⟩
      · intro h
        obtain ⟨a, x, b, y, ha, hx, hb, hy⟩ := i2 h
        exact ⟨[r] ++ a, x, b, y, form_app one ha, hx, hb, hy⟩
theorem cuts_l0 (s : ByteArray) (l : List Int) (ha : All l) (hb : l.length ≤ 1000000000) (c : Nat) (hc : c ≤ 1000000000) (R : Bool) (fin : ∀ n : Nat, Ev (fun k => figureheadlaw11_UtfCuts.l0 k s l (c : Int) (btw l 0 c) (n : Int) ((l.length + 1 : Nat) : Int)) R) :
    ∀ (t : List Int) (i n : Nat) (b : Bool), l.drop i = t → i + t.length = l.length → n ≤ 4 * i → (b || btw t n c) = btw l 0 c → Ev (fun k => figureheadlaw11_UtfCuts.l0 k s l (c : Int) b (n : Int) (i : Int)) R
  | [], i, n, b, hd, hi, hn, hbt => by
    rw [List.length_nil, Nat.add_zero] at hi
    refine succ ?_
    simp only [figureheadlaw11_UtfCuts.l0]
    refine pos (by omega) ?_
    rw [w64 (x := (i : Int) + 1) (by omega) (by omega)]
    have f := fin n
    rw [← hbt, ← hi] at f
    rw [btw_nil] at f
    by_cases hx : b = true
    · subst hx
      rw [Bool.true_or] at f
      refine pos rfl (neg (by omega) ?_)
      simpa using f
    · have hx2 : b = false := by simpa using hx
      subst hx2
      rw [Bool.false_or] at f
      refine neg (by simp) (neg (by omega) ?_)
      rw [show ((n : Int) == (c : Int)) = decide (n = c) from by
        by_cases e : n = c
        · subst e; simp
        · rw [decide_eq_false e]; exact beq_eq_false_iff_ne.2 (by omega)]
      simpa using f
  | r :: t, i, n, b, hd, hi, hn, hbt => by
    rw [List.length_cons] at hi
    refine succ ?_
    simp only [figureheadlaw11_UtfCuts.l0]
    have hil : i < l.length := by omega
    have e0 : l.drop i = l[i] :: l.drop (i + 1) := List.drop_eq_getElem_cons hil
    rw [e0] at hd
    obtain ⟨e1, e2⟩ := List.cons.inj hd
    have er : rd l (i : Int) = r := by rw [rd_eq, List.getD_eq_getElem?_getD, Int.toNat_natCast, List.getElem?_eq_getElem hil]; exact e1
    have hv : Lib.validRune r = true := ha r (by rw [← e1]; exact List.getElem_mem _)
    have hz := encodeRuneZ_length r
    have hl : (encodeRuneZ r).length = (encodeRune r).length := by simp [encodeRune]
    have hl2 := (enc_len r).2
    rw [er, refBytes_val r hv]
    simp only [Option.bind_some]
    rw [w64 (x := (i : Int) + 1) (by omega) (by omega), w64 (x := (n : Int) + ((encodeRuneZ r).length : Int)) (by omega) (by omega), hl]
    refine pos (by omega) ?_
    rw [btw_cons] at hbt
    by_cases hx : b = true
    · subst hx
      refine pos rfl (pos (by omega) (pos (by omega) ?_))
      have := cuts_l0 s l ha hb c hc R fin t (i + 1) (n + (encodeRune r).length) true e2 (by omega) (by omega) (by rw [← hbt]; simp)
      simpa using this
    · have hx2 : b = false := by simpa using hx
      subst hx2
      refine neg (by simp) (pos (by omega) (pos (by omega) ?_))
      rw [show ((n : Int) == (c : Int)) = decide (n = c) from by
        by_cases e : n = c
        · subst e; simp
        · rw [decide_eq_false e]; exact beq_eq_false_iff_ne.2 (by omega)]
      have := cuts_l0 s l ha hb c hc R fin t (i + 1) (n + (encodeRune r).length) (decide (n = c)) e2 (by omega) (by omega) (by rw [← hbt, Bool.false_or])
      simpa using this
theorem u16_wf {x : Int} (h : (Lit.int .u16 x).wf = true) : 0 ≤ x ∧ x ≤ 65535 := by
  simpa [Lit.wf, IntKind.min, IntKind.max, IntKind.signed, IntKind.bits] using h
theorem UtfCuts : figureheadlaw11_UtfCuts.Pure := by
  intro s at_ hs hat hbig
  have hat2 := u16_wf hat
  refine Ev.rounds (r := true) ?_
  simp only [figureheadlaw11_UtfCuts.f]
  have yes : ∀ (l : List Int) (x : Bool), x = true → Ev (fun k => figureheadlaw11_UtfCuts.j0 k s at_ l x) true := fun l x hx => by
    subst hx
    refine succ ?_
    simp only [figureheadlaw11_UtfCuts.j0]
    exact pos (by simp) (Ev.bind answers11 (Ev.now _))
  obtain ⟨rs, ra, hf⟩ := form (L s)
  refine Ev.bind (refRunes_ev s (by omega) rs ra hf) ?_
  unfold refRunesR
  by_cases hr : ra = []
  rotate_left
  · rw [if_neg hr]
    exact pos (by simp only; omega) (yes _ _ rfl)
  rw [if_pos hr]
  subst hr
  refine neg (by simp) ?_
  by_cases h : (s.size : Int) > 500
  · exact yes _ _ (decide_eq_true h)
  rw [decide_eq_false h]
  refine succ ?_
  simp only [figureheadlaw11_UtfCuts.j0]
  rw [w64 (x := (s.size : Int) + 1) (by omega) (by omega), w64 (x := at_) (by omega) (by omega), Int.tmod_eq_emod_of_nonneg (by omega)]
  refine neg (by simp) (neg (by omega) ?_)
  have m0 := Int.emod_nonneg at_ (show ((s.size : Int) + 1) ≠ 0 by omega)
  have m1 := Int.emod_lt_of_pos at_ (show 0 < ((s.size : Int) + 1) by omega)
  obtain ⟨c, hc⟩ : ∃ c : Nat, at_ % ((s.size : Int) + 1) = (c : Int) := ⟨(at_ % ((s.size : Int) + 1)).toNat, by omega⟩
  rw [hc] at m0 m1 ⊢
  have hLe : L s = encAll rs := by rw [hf.2.1, List.append_nil]
  have hle : (encAll rs).length = s.size := by rw [← hLe, L_len]
  have hlr : rs.length ≤ s.size := by
    have := form_len hf
    omega
  have cf := cut_form rs hf.1 0 c (by omega) (by omega)
  rw [Nat.sub_zero, ← hLe] at cf
  have s1 : L (s.extract 0 c) = (L s).take c := by rw [L_ext, List.drop_zero, Nat.sub_zero]
  have s2 : L (s.extract c s.size) = (L s).drop c := by rw [L_ext, List.take_of_length_le (by rw [List.length_drop, L_len]; omega)]
  have z1 : (s.extract 0 c).size < 9223372036854775807 := by rw [size_ext]; omega
  have z2 : (s.extract c s.size).size < 9223372036854775807 := by rw [size_ext]; omega
  refine cuts_l0 s rs hf.1 (by omega) c (by omega) true (fun n => ?_) rs 0 0 false (by simp) (by omega) (by omega) (by simp)
  refine succ ?_
  simp only [figureheadlaw11_UtfCuts.l0]
  refine neg (by omega) (Ev.bind answers11 (pos rfl (pos (by omega) (pos (by omega) ?_))))
  rw [Int.toNat_natCast]
  by_cases hb : btw rs 0 c = true
  · obtain ⟨a, b, ha, hb2⟩ := cf.1 hb
    rw [← s1] at ha
    rw [← s2] at hb2
    rw [bad_val _ z1 _ _ ha, bad_val _ z2 _ _ hb2, hb, if_pos rfl, if_pos rfl]
    simp only [Option.bind_some]
    exact pos (by simp) (mk (fun _ => by simp))
  · have hb1 : btw rs 0 c = false := by simpa using hb
    obtain ⟨a, x, b, y, ha, hx, hb2, hy⟩ := cf.2 hb1
    rw [← s1] at ha
    rw [← s2] at hb2
    rw [bad_val _ z1 _ _ ha, bad_val _ z2 _ _ hb2, hb1, if_neg hx, if_neg hy]
    simp only [Option.bind_some]
    have n1 : ¬ (((encAll a).length : Nat) : Int) < 0 := by omega
    have n2 : ¬ (((encAll b).length : Nat) : Int) < 0 := by omega
    rw [decide_eq_false n1, decide_eq_false n2]
    exact pos (by simp) (mk (fun _ => by simp))
end Go.Proofs.YtenifjkiiaahiaaDoor.Pure
