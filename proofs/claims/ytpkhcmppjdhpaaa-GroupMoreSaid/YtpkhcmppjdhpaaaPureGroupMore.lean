/- The law GroupMore, the plain side: more bytes ahead change none of the parts but the first one. -/
import Derived.Test.YtpkhcmppjdhpaaaP20
namespace Go.Proofs.Ytpkhcmppjdhpaaa.Pure
open Go.RowKit Go.Proofs.Ytpkhcmppjdhpaaa.Print Go.Proofs.Ytpkhcmppjdhpaaa.U Go.Proofs.YtpkhcmppjdhpaaaW.PrintWords
set_option linter.unusedVariables false
set_option linter.unusedSimpArgs false

theorem app_ext_left (a b : ByteArray) (n : Nat) (hn : n ≤ b.size) : (a ++ b).extract 0 (a.size + n) = a ++ b.extract 0 n := by
  apply L_inj
  rw [L_ext, L_app, L_app, L_ext]
  simp only [List.drop_zero, Nat.sub_zero]
  rw [List.take_append, List.take_of_length_le (by rw [L_len]; omega), L_len, Nat.add_sub_cancel_left]
theorem app_ext_right (a b : ByteArray) (n : Nat) : (a ++ b).extract (a.size + n) (a ++ b).size = b.extract n b.size := by
  apply L_inj
  rw [L_ext, L_app, L_ext, size_app, List.drop_append, List.drop_of_length_le (by rw [L_len]; omega), L_len, List.nil_append, Nat.add_sub_cancel_left]
  congr 1
  omega
theorem parts_more (a : ByteArray) (sec : Int) (hs2 : 1 ≤ sec) : ∀ (f g : Nat) (b : ByteArray) (size : Int), 1 ≤ size → b.size ≤ f → (a ++ b).size ≤ g →
    ∃ h t pre h', parts f b size sec = h :: t ∧ parts g (a ++ b) size sec = pre ++ h' :: t ∧ (∃ u, L h' = u ++ L h)
  | 0, g, b, size, h1, hf, hg => by
    have hb : L b = [] := List.eq_nil_of_length_eq_zero (by rw [L_len]; omega)
    cases g with
    | zero => exact ⟨b, [], [], a ++ b, rfl, rfl, [], by rw [L_app, hb]; have := L_len a; rw [size_app] at hg; have : L a = [] := List.eq_nil_of_length_eq_zero (by omega); rw [this]⟩
    | succ g =>
      refine ⟨b, [], ?_⟩
      unfold parts
      by_cases hc : ((a ++ b).size : Int) > size
      · exact ⟨parts g ((a ++ b).extract 0 (((a ++ b).size : Int) - size).toNat) sec sec, _, rfl, by rw [if_pos hc], L ((a ++ b).extract (((a ++ b).size : Int) - size).toNat (a ++ b).size), by simp [hb]⟩
      · exact ⟨[], a ++ b, rfl, by rw [if_neg hc]; rfl, L a, by rw [L_app]⟩
  | f + 1, g, b, size, h1, hf, hg => by
    by_cases hc : (b.size : Int) > size
    · obtain ⟨g, rfl⟩ : ∃ g', g = g' + 1 := ⟨g - 1, by rw [size_app] at hg; omega⟩
      have hs := size_app a b
      have en : (((a ++ b).size : Int) - size).toNat = a.size + ((b.size : Int) - size).toNat := by omega
      obtain ⟨h, t, pre, h', e1, e2, hu⟩ := parts_more a sec hs2 f g (b.extract 0 ((b.size : Int) - size).toNat) sec hs2 (by rw [size_ext]; omega) (by rw [size_app, size_ext]; omega)
      refine ⟨h, t ++ [b.extract ((b.size : Int) - size).toNat b.size], pre, h', ?_, ?_, hu⟩
      · unfold parts
        rw [if_pos hc, e1]; rfl
      · unfold parts
        rw [if_pos (by omega), en, app_ext_left _ _ _ (by omega), app_ext_right, e2]
        simp
    · cases g with
      | zero =>
        have hz := size_app a b
        have ha : L a = [] := List.eq_nil_of_length_eq_zero (by rw [L_len]; omega)
        refine ⟨b, [], [], a ++ b, ?_, rfl, L a, by rw [L_app]⟩
        unfold parts
        rw [if_neg hc]
      | succ g =>
        refine ⟨b, [], ?_⟩
        unfold parts
        rw [if_neg hc]
        by_cases hc2 : ((a ++ b).size : Int) > size
        · refine ⟨parts g ((a ++ b).extract 0 (((a ++ b).size : Int) - size).toNat) sec sec, _, rfl, by rw [if_pos hc2], (L a).drop (((a ++ b).size : Int) - size).toNat, ?_⟩
          have hs := size_app a b
          rw [L_ext, L_app, List.drop_append]
          rw [show (((a ++ b).size : Int) - size).toNat - (L a).length = 0 by rw [L_len]; omega, List.drop_zero]
          rw [List.take_of_length_le]
          rw [List.length_append, List.length_drop, L_len, L_len]
          omega
        · exact ⟨[], a ++ b, rfl, by rw [if_neg hc2]; rfl, L a, by rw [L_app]⟩
theorem rd_at2 (l : List ByteArray) (i : Nat) (hi : i < l.length) : rdOf ByteArray.empty l (i : Int) = l[i] := by
  rw [rdOf_eq, List.getD_eq_getElem?_getD, Int.toNat_natCast, List.getElem?_eq_getElem hi]
  rfl
theorem ends_val (x y : ByteArray) (hx : x.size ≤ 1000000) (u : List UInt8) (h : L x = u ++ L y) : figureheadref18_Ends.f x y = some true := by
  have hl := congrArg List.length h
  rw [L_len, List.length_append, L_len] at hl
  simp only [figureheadref18_Ends.f]
  rw [w64 (by omega) (by omega), if_pos (by omega), if_pos (by omega), if_pos (by omega)]
  congr 1
  rw [toList_L, toList_L, L_ext, beq_iff_eq, h, List.drop_append, show ((x.size : Int) - (y.size : Int)).toNat = u.length by omega]
  simp only [List.drop_length, Nat.sub_self, List.drop_zero, List.nil_append]
  exact List.take_of_length_le (by rw [L_len]; omega)
theorem more_l0 (a : ByteArray) (h h' : ByteArray) (t pre : List ByteArray) (ht : t.length + pre.length ≤ 100000) (hu : ∃ u, L h' = u ++ L h) (hh : h'.size ≤ 1000000) (ha : L a = [] → pre = []) :
    ∀ (d i : Nat), 1 ≤ i → i + d = (h :: t).length → Ev (fun k => figureheadlaw20_GroupMore.l0 k a (h :: t) (pre ++ h' :: t) (pre.length : Int) (i : Int)) true
  | 0, i, h1, hd => by
    refine succ ?_
    simp only [figureheadlaw20_GroupMore.l0]
    have e0 : rdOf ByteArray.empty (h :: t) 0 = h := rfl
    have en : rdOf ByteArray.empty (pre ++ h' :: t) (pre.length : Int) = h' := by rw [rd_at2 _ _ (by simp)]; simp
    rw [e0, en]
    obtain ⟨u, hu⟩ := hu
    have hE := ends_val h' h hh u hu
    refine neg (by omega) (Ev.bind answers20 (pos rfl ?_))
    have tail : Ev (fun _ : Nat => (figureheadref18_Ends.f h' h).bind fun t181 => some t181) true := by rw [hE]; exact Ev.now _
    by_cases hc : a.toList = ([] : List UInt8)
    · have hp : pre = [] := ha (by rw [← toList_L]; exact hc)
      refine pos hc (pos (by simp [hp]) (pos (by omega) (pos (by simp [hp]) (pos (by simp) tail))))
    · exact neg hc (pos (by omega) (pos (by simp; omega) (pos (by simp) tail)))
  | d + 1, i, h1, hd => by
    refine succ ?_
    simp only [figureheadlaw20_GroupMore.l0]
    simp only [List.length_cons] at hd
    rw [w64 (x := (pre.length : Int) + (i : Int)) (by omega) (by omega), w64 (x := (i : Int) + 1) (by omega) (by omega)]
    have e1 : rdOf ByteArray.empty (h :: t) (i : Int) = rdOf ByteArray.empty (pre ++ h' :: t) ((pre.length : Int) + (i : Int)) := by
      obtain ⟨j, rfl⟩ : ∃ j, i = j + 1 := ⟨i - 1, by omega⟩
      rw [show (pre.length : Int) + ((j + 1 : Nat) : Int) = ((pre.length + (j + 1) : Nat) : Int) by omega, rd_at2 _ _ (by simp; omega), rd_at2 _ _ (by simp; omega)]
      simp [List.getElem_append_right]
    refine pos (by simp; omega) (pos (by omega) (pos (by omega) (pos (by simp; omega) (pos (by rw [e1]) ?_))))
    have := more_l0 a h h' t pre ht hu hh ha d (i + 1) (by omega) (by simp; omega)
    simpa using this
theorem GroupMore : figureheadlaw20_GroupMore.Pure := by
  intro a b p q hsa hsb hp hq
  have hp2 : 0 ≤ p ∧ p ≤ 255 := by simpa [Lit.wf, IntKind.min, IntKind.max, IntKind.signed, IntKind.bits] using hp
  have hq2 : 0 ≤ q ∧ q ≤ 255 := by simpa [Lit.wf, IntKind.min, IntKind.max, IntKind.signed, IntKind.bits] using hq
  refine Ev.rounds (r := true) ?_
  simp only [figureheadlaw20_GroupMore.f]
  have yes : Ev (fun k => figureheadlaw20_GroupMore.j0 k a b p q true) true := by
    refine succ ?_
    simp only [figureheadlaw20_GroupMore.j0]
    exact pos (by simp) (Ev.bind answers20 (Ev.now _))
  rw [w64 (x := (a.size : Int) + (b.size : Int)) (by omega) (by omega)]
  by_cases h : (a.size : Int) + (b.size : Int) > 500
  · exact pos h yes
  refine neg h ?_
  by_cases h2 : p = 0
  · exact pos h2 yes
  refine neg h2 ?_
  by_cases h4 : L b = []
  · have : (b.toList == ([] : List UInt8)) = true := by rw [toList_L, h4]; rfl
    rw [this]; exact yes
  have : (b.toList == ([] : List UInt8)) = false := by rw [toList_L]; simpa using h4
  rw [this]
  refine succ ?_
  simp only [figureheadlaw20_GroupMore.j0]
  rw [w64 (x := p) (by omega) (by omega), w64 (x := q) (by omega) (by omega)]
  have hs := size_app a b
  obtain ⟨q', hq', hq1⟩ : ∃ q', (if q < 1 then p else q) = q' ∧ 1 ≤ q' := by
    by_cases h : q < 1
    · exact ⟨p, if_pos h, by omega⟩
    · exact ⟨q, if_neg h, by omega⟩
  have e1 : splitR b p q = parts b.size b p q' := by unfold splitR; rw [if_neg (by omega), hq']
  have e2 : splitR (a ++ b) p q = parts (a ++ b).size (a ++ b) p q' := by unfold splitR; rw [if_neg (by omega), hq']
  obtain ⟨hd, t, pre, hd', f1, f2, hu⟩ := parts_more a q' hq1 b.size (a ++ b).size b p (by omega) (Nat.le_refl _) (Nat.le_refl _)
  have hsp := split_ev b p q (by omega)
  have hsp2 := split_ev (a ++ b) p q (by omega)
  have l2 := splitR_len (a ++ b) p q
  rw [e1, f1] at hsp
  rw [e2, f2] at hsp2 l2
  simp only [List.length_append, List.length_cons] at l2
  have hpre : L a = [] → pre = [] := fun ha => by
    have : a ++ b = b := L_inj (by rw [L_app, ha]; rfl)
    rw [this, f1] at f2
    have := congrArg List.length f2
    simpa using this
  have hh : hd'.size ≤ 1000000 := by
    have : ∀ (f : Nat) (s : ByteArray) (size sec : Int), ∀ x ∈ parts f s size sec, x.size ≤ s.size := by
      intro f
      induction f with
      | zero => intro s size sec x hx; rw [List.mem_singleton.1 hx]; omega
      | succ f ih =>
        intro s size sec x hx
        unfold parts at hx
        split at hx
        · rcases List.mem_append.1 hx with hx | hx
          · have := ih _ _ _ x hx
            rw [size_ext] at this
            omega
          · rw [List.mem_singleton.1 hx, size_ext]; omega
        · rw [List.mem_singleton.1 hx]; omega
    have := this _ (a ++ b) p q' hd' (by rw [f2]; simp)
    omega
  refine neg (by simp) (Ev.bind hsp (pos (by omega) (Ev.bind hsp2 ?_)))
  have el : wrap64 (((pre ++ hd' :: t).length : Int) - ((hd :: t).length : Int)) = (pre.length : Int) := by rw [w64] <;> simp <;> omega
  rw [el]
  refine neg (by omega) ?_
  exact more_l0 a hd hd' t pre (by omega) hu hh hpre t.length 1 (by omega) (by simp; omega)
end Go.Proofs.Ytpkhcmppjdhpaaa.Pure
