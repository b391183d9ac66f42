/- The law GroupJoins, the plain side: Join is what the law's own loop puts together. -/
import Derived.Test.YtpkhcmppjdhpaaaP20
namespace Go.Proofs.Ytpkhcmppjdhpaaa.Pure
open Go.RowKit Go.Proofs.Ytpkhcmppjdhpaaa.Print Go.Proofs.Ytpkhcmppjdhpaaa.U Go.Proofs.YtpkhcmppjdhpaaaW.PrintWords
set_option linter.unusedVariables false
set_option linter.unusedSimpArgs false

theorem join_snoc (l : List (List UInt8)) (x sep : List UInt8) : Lib.join (l ++ [x]) sep = if l = [] then x else Lib.join l sep ++ sep ++ x := by
  cases l with
  | nil => simp [Lib.join_one]
  | cons y l =>
    rw [if_neg (by simp), List.cons_append, Lib.join_cons, Lib.join_cons]
    simp [Lib.joinTail, List.append_assoc]
theorem join_le (sep : List UInt8) (m : Nat) (hs : sep.length ≤ 100) : ∀ (l : List (List UInt8)), (∀ x ∈ l, x.length ≤ 100) → (Lib.join l sep).length ≤ 200 * l.length := by
  intro l
  cases l with
  | nil => intro _; simp [Lib.join_nil]
  | cons y l =>
    intro h
    rw [Lib.join_cons, List.length_append]
    have hy := h y (by simp)
    have ht : ∀ (l : List (List UInt8)), (∀ x ∈ l, x.length ≤ 100) → (Lib.joinTail sep l).length ≤ 200 * l.length := by
      intro l
      induction l with
      | nil => intro _; simp [Lib.joinTail]
      | cons z l ih =>
        intro h
        have hz := h z (by simp)
        have := ih (fun x hx => h x (by simp [hx]))
        simp only [Lib.joinTail, List.map_cons, List.flatten_cons, List.length_append, List.length_cons] at this ⊢
        omega
    have := ht l (fun x hx => h x (by simp [hx]))
    simp only [List.length_cons]
    omega
theorem joins_l0 (l : List ByteArray) (sep : ByteArray) (hl : l.length ≤ 50) (hs : sep.size ≤ 100) : ∀ (d : Nat) (i : Nat) (want : ByteArray), i + d = l.length → (∀ x ∈ l.take i, x.size ≤ 100) → L want = Lib.join ((l.take i).map (·.data.toList)) (L sep) →
    Ev (fun k => figureheadlaw20_GroupJoins.l0 k l sep want (i : Int)) true
  | 0, i, want, hd, hb, hw => by
    refine succ ?_
    simp only [figureheadlaw20_GroupJoins.l0]
    have e : l.take i = l := List.take_of_length_le (by omega)
    rw [e] at hb hw
    refine neg (by omega) (Ev.bind answers20 (pos (by simp) ?_))
    have hj := join_le (L sep) 0 (by rw [L_len]; exact hs) (l.map (·.data.toList)) (fun x hx => by
      obtain ⟨y, hy, rfl⟩ := List.mem_map.1 hx
      rw [show y.data.toList.length = y.size from L_len y]
      exact hb y hy)
    rw [List.length_map] at hj
    refine mk (fun k => ?_)
    rw [join_val l sep (by omega) (by show (Lib.join _ (L sep)).length ≤ _; omega)]
    simp only [Option.bind_some, toList_L, L_mk, hw]
    simp
  | d + 1, i, want, hd, hb, hw => by
    refine succ ?_
    simp only [figureheadlaw20_GroupJoins.l0]
    refine pos (by omega) (pos (by omega) ?_)
    have hi : i < l.length := by omega
    have er : rdOf ByteArray.empty l (i : Int) = l[i] := by rw [rdOf_eq, List.getD_eq_getElem?_getD, Int.toNat_natCast, List.getElem?_eq_getElem hi]; rfl
    have et : l.take (i + 1) = l.take i ++ [l[i]] := by rw [List.take_succ_eq_append_getElem hi]
    rw [er]
    by_cases hc : ((l[i]).size : Int) > 100
    · exact pos hc (Ev.bind answers20 (Ev.now _))
    · refine neg hc ?_
      rw [w64 (by omega) (by omega)]
      have hb2 : ∀ x ∈ l.take (i + 1), x.size ≤ 100 := by
        intro x hx
        rw [et] at hx
        rcases List.mem_append.1 hx with hx | hx
        · exact hb x hx
        · rw [List.mem_singleton.1 hx]; omega
      have hwl : want.size ≤ 200 * 50 := by
        have hj := join_le (L sep) 0 (by rw [L_len]; exact hs) ((l.take i).map (·.data.toList)) (fun x hx => by
          obtain ⟨y, hy, rfl⟩ := List.mem_map.1 hx
          rw [show y.data.toList.length = y.size from L_len y]
          exact hb y hy)
        rw [← hw, L_len, List.length_map, List.length_take] at hj
        omega
      have hw2 : Lib.join ((l.take (i + 1)).map (·.data.toList)) (L sep) = if i = 0 then L l[i] else L want ++ L sep ++ L l[i] := by
        rw [et, List.map_append, List.map_singleton, join_snoc, ← hw]
        by_cases h0 : i = 0
        · subst h0; simp
        · have : ¬ (List.map (fun x => x.data.toList) (List.take i l) = []) := by
            intro h
            have := congrArg List.length h
            rw [List.length_map, List.length_take, List.length_nil] at this
            omega
          rw [if_neg this, if_neg h0]
      by_cases h0 : (i : Int) > 0
      · refine pos h0 (pos (by omega) (pos (by rw [size_app]; omega) ?_))
        have := joins_l0 l sep hl hs d (i + 1) ((want ++ sep) ++ l[i]) (by omega) hb2 (by rw [hw2, if_neg (by omega), L_app, L_app])
        simpa using this
      · refine neg h0 (pos (by omega) ?_)
        have h00 : i = 0 := by omega
        have ew : L want = [] := by rw [hw, h00]; simp [Lib.join_nil]
        have := joins_l0 l sep hl hs d (i + 1) (want ++ l[i]) (by omega) hb2 (by rw [hw2, if_pos h00, L_app, ew]; rfl)
        simpa using this
theorem GroupJoins : figureheadlaw20_GroupJoins.Pure := by
  intro l sep hl hw hs
  refine Ev.rounds (r := true) ?_
  simp only [figureheadlaw20_GroupJoins.f]
  have yes : Ev (fun k => figureheadlaw20_GroupJoins.j0 k l sep true) true := by
    refine succ ?_
    simp only [figureheadlaw20_GroupJoins.j0]
    exact pos (by simp) (Ev.bind answers20 (Ev.now _))
  by_cases h : (l.length : Int) > 50
  · exact pos h yes
  · refine neg h ?_
    by_cases h2 : (sep.size : Int) > 100
    · rw [decide_eq_true h2]; exact yes
    · rw [decide_eq_false h2]
      refine succ ?_
      simp only [figureheadlaw20_GroupJoins.j0]
      refine neg (by decide) ?_
      have := joins_l0 l sep (by omega) (by omega) l.length 0 ⟨#[]⟩ (by omega) (by simp) (by simp [Lib.join_nil])
      simpa using this
end Go.Proofs.Ytpkhcmppjdhpaaa.Pure
