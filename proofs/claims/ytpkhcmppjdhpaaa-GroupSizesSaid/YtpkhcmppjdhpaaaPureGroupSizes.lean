/- The law GroupSizes, the plain side: how long each part is; together they are the text. -/
import Derived.Test.YtpkhcmppjdhpaaaP20
namespace Go.Proofs.Ytpkhcmppjdhpaaa.Pure
open Go.RowKit Go.Proofs.Ytpkhcmppjdhpaaa.Print Go.Proofs.Ytpkhcmppjdhpaaa.U Go.Proofs.YtpkhcmppjdhpaaaW.PrintWords
set_option linter.unusedVariables false
set_option linter.unusedSimpArgs false

theorem cut_two (s : ByteArray) (i : Nat) (hi : i ≤ s.size) : L (s.extract 0 i) ++ L (s.extract i s.size) = L s := by
  rw [L_ext, L_ext, List.drop_zero, Nat.sub_zero]
  rw [List.take_of_length_le (l := (L s).drop i) (by rw [List.length_drop, L_len]; omega)]
  exact List.take_append_drop i (L s)
theorem parts_form (sec : Int) (hs2 : 1 ≤ sec) : ∀ (f : Nat) (s : ByteArray) (size : Int), 1 ≤ size → 1 ≤ s.size → s.size ≤ f →
    ∃ h t, parts f s size sec = h :: t ∧ 1 ≤ h.size ∧ ((t = [] ∧ (s.size : Int) ≤ size) ∨ ∃ m z, t = m ++ [z] ∧ (z.size : Int) = size ∧ (∀ x ∈ m, (x.size : Int) = sec) ∧ (h.size : Int) ≤ sec) ∧ L h ++ (t.map L).flatten = L s
  | 0, s, size, h1, h2, h3 => by omega
  | f + 1, s, size, h1, h2, h3 => by
    unfold parts
    by_cases hc : (s.size : Int) > size
    · rw [if_pos hc]
      obtain ⟨h, t, he, hh, hform, hfl⟩ := parts_form sec hs2 f (s.extract 0 ((s.size : Int) - size).toNat) sec hs2 (by rw [size_ext]; omega) (by rw [size_ext]; omega)
      have hz : ((s.extract ((s.size : Int) - size).toNat s.size).size : Int) = size := by rw [size_ext]; omega
      refine ⟨h, t ++ [s.extract ((s.size : Int) - size).toNat s.size], by rw [he]; rfl, hh, .inr ⟨t, _, rfl, hz, ?_, ?_⟩, ?_⟩
      · rcases hform with ⟨rfl, _⟩ | ⟨m, z, rfl, hz2, hm, _⟩
        · intro x hx; cases hx
        · intro x hx
          rcases List.mem_append.1 hx with hx | hx
          · exact hm x hx
          · rw [List.mem_singleton.1 hx]; exact hz2
      · rcases hform with ⟨rfl, hle⟩ | ⟨m, z, rfl, _, _, hle⟩
        · have : L h = L (s.extract 0 ((s.size : Int) - size).toNat) := by simpa using hfl
          have e := congrArg List.length this
          rw [L_len, L_len] at e
          omega
        · exact hle
      · rw [List.map_append, List.flatten_append, ← List.append_assoc, hfl]
        simp only [List.map_cons, List.map_nil, List.flatten_cons, List.flatten_nil, List.append_nil]
        exact cut_two s _ (by omega)
    · rw [if_neg hc]
      exact ⟨s, [], rfl, h2, .inl ⟨rfl, by omega⟩, by simp⟩
theorem flat_join (l : List ByteArray) : Lib.join (l.map (·.data.toList)) [] = (l.map L).flatten := by
  cases l with
  | nil => simp [Lib.join_nil]
  | cons x l => 
    rw [List.map_cons, Lib.join_cons]
    simp only [Lib.joinTail, List.nil_append, List.map_id', List.map_cons, List.flatten_cons]
theorem rd_at (l : List ByteArray) (i : Nat) (hi : i < l.length) : rdOf ByteArray.empty l (i : Int) = l[i] := by
  rw [rdOf_eq, List.getD_eq_getElem?_getD, Int.toNat_natCast, List.getElem?_eq_getElem hi]
  rfl
theorem sizes_l0 (s : ByteArray) (p q : Int) (l : List ByteArray) (hl : l.length ≤ 100000) (h : ByteArray) (t : List ByteArray) (he : l = h :: t) (hq : 0 ≤ q) (hq2 : q ≤ 255) (hp : 0 ≤ p) (hp2 : p ≤ 255) (hh : 1 ≤ h.size)
    (hf : (t = [] ∧ (s.size : Int) ≤ p) ∨ ∃ m z, t = m ++ [z] ∧ (z.size : Int) = p ∧ (∀ x ∈ m, (x.size : Int) = q) ∧ (h.size : Int) ≤ q) :
    ∀ (d : Nat) (i : Nat), 1 ≤ i → (l.length ≤ i + d + 1) → Ev (fun k => figureheadlaw20_GroupSizes.l0 k s p q l (i : Int)) true := by
  have fin : ∀ i : Nat, l.length ≤ i + 1 → Ev (fun k => figureheadlaw20_GroupSizes.l0 k s p q l (i : Int)) true := fun i hi => by
    refine succ ?_
    simp only [figureheadlaw20_GroupSizes.l0]
    have hll : 1 ≤ l.length := by rw [he]; simp
    rw [w64 (x := (l.length : Int) - 1) (by omega) (by omega), w64 (x := p) (by omega) (by omega), w64 (x := q) (by omega) (by omega)]
    have e0 : rdOf ByteArray.empty l 0 = h := by rw [he]; rfl
    refine neg (by omega) (Ev.bind answers20 (pos (by simp) (pos (by omega) ?_)))
    rw [e0]
    refine pos (by omega) ?_
    rcases hf with ⟨ht, hs⟩ | ⟨m, z, ht, hz, hm, hle⟩
    · refine pos (by rw [he, ht]; rfl) (pos hs (Ev.now _))
    · refine neg (by rw [he, ht]; simp; omega) (pos (by rw [he, ht]; simp; omega) ?_)
      rw [decide_eq_true hle]
      exact Ev.now _
  intro d
  induction d with
  | zero => intro i h1 hd; exact fin i (by omega)
  | succ d ih =>
    intro i h1 hd
    by_cases hi : l.length ≤ i + 1
    · exact fin i hi
    · refine succ ?_
      simp only [figureheadlaw20_GroupSizes.l0]
      rw [w64 (x := (l.length : Int) - 1) (by omega) (by omega), w64 (x := q) (by omega) (by omega), rd_at l i (by omega)]
      have hx : ((l[i]'(by omega)).size : Int) = q := by
        rcases hf with ⟨ht, hs⟩ | ⟨m, z, ht, hz, hm, hle⟩
        · rw [he, ht] at hi; simp at hi
        · refine hm _ ?_
          have hml : l.length = m.length + 2 := by rw [he, ht]; simp
          obtain ⟨j, rfl⟩ : ∃ j, i = j + 1 := ⟨i - 1, by omega⟩
          have : l[j + 1]'(by omega) = m[j]'(by omega) := by
            simp only [he, ht, List.getElem_cons_succ]
            rw [List.getElem_append_left (by omega)]
          rw [this]
          exact List.getElem_mem _
      refine pos (by omega) (pos (by omega) (pos (by omega) (pos hx ?_)))
      rw [w64 (by omega) (by omega)]
      have := ih (i + 1) (by omega) (by omega)
      simpa using this
theorem GroupSizes : figureheadlaw20_GroupSizes.Pure := by
  intro s p q hs hp hq
  have hp2 : 0 ≤ p ∧ p ≤ 255 := by simpa [Lit.wf, IntKind.min, IntKind.max, IntKind.signed, IntKind.bits] using hp
  have hq2 : 0 ≤ q ∧ q ≤ 255 := by simpa [Lit.wf, IntKind.min, IntKind.max, IntKind.signed, IntKind.bits] using hq
  refine Ev.rounds (r := true) ?_
  simp only [figureheadlaw20_GroupSizes.f]
  have yes : Ev (fun k => figureheadlaw20_GroupSizes.j0 k s p q true) true := by
    refine succ ?_
    simp only [figureheadlaw20_GroupSizes.j0]
    exact pos (by simp) (Ev.bind answers20 (Ev.now _))
  by_cases h : (s.size : Int) > 500
  · exact pos h yes
  refine neg h ?_
  by_cases h2 : p = 0
  · exact pos h2 yes
  refine neg h2 ?_
  by_cases h3 : q = 0
  · exact pos h3 yes
  refine neg h3 ?_
  by_cases h4 : L s = []
  · have : (s.toList == ([] : List UInt8)) = true := by rw [toList_L, h4]; rfl
    rw [this]; exact yes
  have : (s.toList == ([] : List UInt8)) = false := by rw [toList_L]; simpa using h4
  rw [this]
  have h1s : 1 ≤ s.size := by rw [← L_len]; exact List.length_pos_iff.2 h4
  obtain ⟨hd, t, he, hh, hf, hfl⟩ := parts_form q (by omega) s.size s p (by omega) h1s (Nat.le_refl _)
  have hR : splitR s p q = hd :: t := by unfold splitR; rw [if_neg (by omega), if_neg (by omega), he]
  have hlen := splitR_len s p q
  rw [hR] at hlen
  refine succ ?_
  simp only [figureheadlaw20_GroupSizes.j0]
  rw [w64 (x := p) (by omega) (by omega), w64 (x := q) (by omega) (by omega)]
  have hsp := split_ev s p q (by omega)
  rw [hR] at hsp
  refine neg (by simp) (Ev.bind hsp (neg (by simp; omega) ?_))
  have hjl : Lib.join ((hd :: t).map (·.data.toList)) [] = L s := by rw [flat_join, List.map_cons, List.flatten_cons]; exact hfl
  have hj : group_Join.f (hd :: t) ⟨#[]⟩ = some s := by
    have := join_val (hd :: t) ⟨#[]⟩ (by omega) (by show (Lib.join _ []).length ≤ _; rw [hjl, L_len]; omega)
    rw [this]
    show some (⟨(Lib.join _ []).toArray⟩ : ByteArray) = some s
    rw [hjl, mk_L]
  refine Ev.bind (mk fun _ => hj) (pos rfl ?_)
  have go : ∀ b : Bool, b = false → Ev (fun k => figureheadlaw20_GroupSizes.j1 k s p q (hd :: t) b) true := fun b hb => by
    subst hb
    refine succ ?_
    simp only [figureheadlaw20_GroupSizes.j1]
    refine neg (by simp) ?_
    exact sizes_l0 s p q (hd :: t) (by omega) hd t rfl (by omega) (by omega) (by omega) (by omega) hh hf (hd :: t).length 1 (by omega) (by omega)
  by_cases h5 : ((hd :: t).length : Int) > 1
  · refine pos h5 ?_
    rw [w64 (x := ((hd :: t).length : Int) - 1) (by omega) (by omega)]
    refine pos (by omega) (pos (by omega) (go _ ?_))
    rcases hf with ⟨rfl, _⟩ | ⟨m, z, rfl, hz, _, _⟩
    · simp at h5
    · have e : ((hd :: (m ++ [z])).length : Int) - 1 = ((m.length + 1 : Nat) : Int) := by simp
      rw [e, rd_at _ _ (by simp)]
      simp [hz]
  · exact neg h5 (go _ rfl)
end Go.Proofs.Ytpkhcmppjdhpaaa.Pure
