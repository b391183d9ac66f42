/- Clear, the plain side; the reference's Clear. (Several texts, merged by this session's own program.) -/
import Derived.Test.YtkgdpgoianimjaaKpt
import Derived.Test.YtkgdpgoianimjaaKea
namespace Go.Proofs.Ytkgdpgoianimjaa.Pure
open Go.RowKit Go.Lib Go.Proofs.Ytkgdpgoianimjaa.Print Go.Proofs.Ytkgdpgoianimjaa.U Go.Proofs.Ytkgdpgoianimjaa.Utf Go.Proofs.YtkgdpgoianimjaaW.PrintWords
set_option linter.unusedVariables false
set_option linter.unusedSimpArgs false

/-- The code points of a text. -/
def rn (t : ByteArray) : List Int := runesFrom t t.size 0
def okS (t : ByteArray) : Prop := All (rn t) ∧ L t = encAll (rn t)
theorem idx_from (p : Nat → Bool) (s : ByteArray) : ∀ (f pos : Nat), decide (0 ≤ Lib.idxFuncFrom p true s f pos) = (runesFrom s f pos).any (fun r => p r.toNat)
  | 0, _ => by simp [Lib.idxFuncFrom, runesFrom]
  | f + 1, pos => by
    unfold Lib.idxFuncFrom runesFrom
    by_cases h : pos < s.size
    · rw [if_pos h, if_pos h, List.any_cons, Int.toNat_natCast]
      cases hp : p (Utf8.decode s pos).1 with
      | true => rw [if_pos rfl, Bool.true_or]; exact decide_eq_true (by omega)
      | false => rw [if_neg (by simp), Bool.false_or]; exact idx_from p s f _
    · rw [if_neg h, if_neg h]; rfl
theorem idx_any (p : Nat → Bool) (s : ByteArray) : decide (0 ≤ Lib.idxFunc p true s) = (rn s).any (fun r => p r.toNat) := idx_from p s s.size 0
theorem any_congr {α : Type} {l : List α} {f g : α → Bool} (h : ∀ x ∈ l, f x = g x) : l.any f = l.any g := by
  induction l with
  | nil => rfl
  | cons a l ih => rw [List.any_cons, List.any_cons, h a (by simp), ih (fun x hx => h x (by simp [hx]))]
theorem valid_pos {r : Int} (h : Lib.validRune r = true) : 0 ≤ r ∧ r ≤ 1114111 := by
  have := (ok_iff r).1 h
  omega
theorem dirty_any {z at_ pad : Int} {t : ByteArray} (h : okS t) : dirtyB z at_ pad t = (rn t).any (strangeB z at_ pad) := by
  unfold dirtyB
  rw [idx_any]
  refine any_congr fun r hr => ?_
  have := valid_pos (h.1 r hr)
  rw [Int.toNat_of_nonneg this.1]
/-- A text of code points. -/
theorem okS_of {t : ByteArray} {rs : List Int} (ha : All rs) (h : L t = encAll rs) : okS t ∧ rn t = rs := by
  have hr : rn t = rs := runesFrom_form t t.size 0 rs (by omega) ⟨ha, by simpa using h, .inl rfl⟩
  refine ⟨⟨by rw [hr]; exact ha, by rw [hr]; exact h⟩, hr⟩
theorem okS_good {t : ByteArray} (h : goodT t = true) : okS t := by
  have := of_decide_eq_true h
  exact runes_all t (by omega)
theorem encAll_appI (a b : List Int) : encAll (a ++ b) = encAll a ++ encAll b := by simp [encAll]
theorem rn_append {a b : ByteArray} (ha : okS a) (hb : okS b) : okS (a ++ b) ∧ rn (a ++ b) = rn a ++ rn b := by
  refine okS_of (fun x hx => ?_) ?_
  · rcases List.mem_append.1 hx with h | h
    · exact ha.1 x h
    · exact hb.1 x h
  · rw [encAll_appI, ← ha.2, ← hb.2]
    simp [L]
/-! ### the reference's Has -/
def hasV (t : ByteArray) (l : List Int) : Bool := (rn t).any (fun r => l.any (fun x => r == x))
theorem rdI_at (l : List Int) (i : Nat) (h : i < l.length) : rd l (i : Int) = l[i] := by
  unfold rd
  simp [h]
theorem has_l1 (l m : List Int) (hl : l.length ≤ 1000000000) (hm : m.length ≤ 1000000000) (i : Nat) (hi : i < m.length) (R : Bool) (hR : Ev (fun k => figureheadref18_Has.l0 k l m ((i + 1 : Nat) : Int)) R) :
    ∀ (d j : Nat), j + d = l.length → Ev (fun k => figureheadref18_Has.l1 k l m (i : Int) (j : Int)) ((l.drop j).any (fun x => m[i] == x) || R)
  | 0, j, h => by
    refine succ ?_
    simp only [figureheadref18_Has.l1]
    rw [List.drop_of_length_le (by omega), List.any_nil, Bool.false_or]
    refine neg (by omega) ?_
    rw [w64 (by omega) (by omega)]
    exact hR
  | d + 1, j, h => by
    refine succ ?_
    simp only [figureheadref18_Has.l1]
    have hj : j < l.length := by omega
    rw [List.drop_eq_getElem_cons hj, List.any_cons, rdI_at m i hi, rdI_at l j hj]
    refine pos (by omega) (pos (by omega) (pos (by omega) (pos (by omega) ?_)))
    by_cases he : m[i] = l[j]
    · rw [show (m[i] == l[j]) = true from beq_iff_eq.2 he, Bool.true_or, Bool.true_or]
      exact pos he (Ev.now _)
    · rw [show (m[i] == l[j]) = false from beq_eq_false_iff_ne.2 he, Bool.false_or]
      refine neg he ?_
      rw [w64 (by omega) (by omega)]
      have := has_l1 l m hl hm i hi R hR d (j + 1) (by omega)
      simpa using this
theorem has_l0 (l m : List Int) (hl : l.length ≤ 1000000000) (hm : m.length ≤ 1000000000) : ∀ (d i : Nat), i + d = m.length → Ev (fun k => figureheadref18_Has.l0 k l m (i : Int)) ((m.drop i).any (fun r => l.any (fun x => r == x)))
  | 0, i, h => by
    refine succ ?_
    simp only [figureheadref18_Has.l0]
    rw [List.drop_of_length_le (by omega), List.any_nil]
    exact neg (by omega) (Ev.now _)
  | d + 1, i, h => by
    refine succ ?_
    simp only [figureheadref18_Has.l0]
    have hi : i < m.length := by omega
    rw [List.drop_eq_getElem_cons hi, List.any_cons]
    refine pos (by omega) ?_
    have := has_l1 l m hl hm i hi _ (has_l0 l m hl hm d (i + 1) (by omega)) l.length 0 (by omega)
    simpa using this
theorem rn_len (s : ByteArray) : ∀ f p, (runesFrom s f p).length ≤ f
  | 0, _ => Nat.le_refl _
  | f + 1, p => by
    unfold runesFrom
    split
    · rw [List.length_cons]; have := rn_len s f (p + (Utf8.decode s p).2); omega
    · simp
theorem has_ev (t : ByteArray) (l : List Int) (h : okS t) (ht : t.size ≤ 1000000000) (hl : l.length ≤ 1000000000) : Ev (fun k => figureheadref18_Has.f k t l) (hasV t l) := by
  simp only [figureheadref18_Has.f]
  refine Ev.bind (refRunes_ev t (by omega) (rn t) [] ⟨h.1, by rw [List.append_nil]; exact h.2, .inl rfl⟩) ?_
  unfold refRunesR
  rw [if_pos rfl]
  have := has_l0 l (rn t) hl (Nat.le_trans (rn_len t _ _) ht) (rn t).length 0 (by omega)
  simpa [hasV] using this
theorem has_calls (t : ByteArray) (l : List Int) (h : okS t) (ht : t.size ≤ 1000000000) (hl : l.length ≤ 1000000000) (A : Option Addr) (c : Nat) (w : World) (hC : Kd.C (Kd.int .i32) w A l.length l) (hc : l.length ≤ c) :
    Calls Try.prog 13 #[.string t, .slice A l.length c] w fun e w' => e = .returned (.bool (hasV t l)) ∧ Below w.heap.size w w' := by
  obtain ⟨k, hk⟩ := Ev.rounds (has_ev t l h ht hl)
  exact figureheadref18_Has.calls k t A c l _ w hC hc hk
/-! ### the texts of items -/
theorem okB_items (s3 s4 s5 s6 s7 : ByteArray) (h : goodT s3 = true ∧ goodT s4 = true ∧ goodT s5 = true ∧ goodT s6 = true ∧ goodT s7 = true) : ∀ (l : List S57) (b : List UInt8), itemsT s3 s4 s5 s6 s7 l = some b → ∃ rs, All rs ∧ b = encAll rs
  | [], b, hb => by
    simp only [itemsT, Option.some.injEq] at hb
    exact ⟨[], (fun x hx => by cases hx), hb.symm⟩
  | x :: l, b, hb => by
    simp only [itemsT, Option.bind_eq_some_iff, Option.map_eq_some_iff] at hb
    obtain ⟨a, ha, c, hc, rfl⟩ := hb
    obtain ⟨rs, h1, rfl⟩ := okB_items s3 s4 s5 s6 s7 h l c hc
    have key : ∃ qs, All qs ∧ a = encAll qs := by
      unfold itemT at ha
      split at ha
      · rename_i hs
        have hsg : goodT (sgn s3 s4 s5 s6 s7 x.f0).1 = true := by
          revert hs
          unfold sgn
          repeat' split
          all_goals (intro hs; first | exact h.1 | exact h.2.1 | exact h.2.2.1 | exact h.2.2.2.1 | exact h.2.2.2.2 | (simp at hs))
        have := okS_good hsg
        exact ⟨_, this.1, (Option.some.inj ha).symm.trans this.2⟩
      split at ha
      · rename_i hs
        refine ⟨[x.f1], fun y hy => ?_, ?_⟩
        · rw [List.mem_singleton.1 hy]; exact hs.2
        · rw [← Option.some.inj ha]; simp [encAll]
      · cases ha
    obtain ⟨qs, h2, rfl⟩ := key
    refine ⟨qs ++ rs, fun y hy => ?_, by rw [encAll_appI]⟩
    rcases List.mem_append.1 hy with hy | hy
    · exact h2 y hy
    · exact h1 y hy
end Go.Proofs.Ytkgdpgoianimjaa.Pure
namespace Go.Proofs.Ytkgdpgoianimjaa.Print
open Go.RowKit Go.Lib Go.Proofs.Ytkgdpgoianimjaa.Utf Go.Proofs.Ytkgdpgoianimjaa.Pure Go.Proofs.YtkgdpgoianimjaaW.PrintWords Go.Proofs.YtkgdpgoianimjaaW.PrintLast Go.Proofs.YtkgdpgoianimjaaW.PrintMore
set_option linter.unusedVariables false
set_option linter.unusedSimpArgs false
/-- What may be asked of the texts. -/
structure Cx (s1 s2 s3 s4 s8 a b c d : ByteArray) : Prop where
  ok : ∀ t, t ∈ [a, b, c, d, s1, s2, s3, s4, s8] → okS t ∧ t.size ≤ 1000000000
open Go.RowKit Go.Lib Go.Proofs.Ytkgdpgoianimjaa.Utf Go.Proofs.Ytkgdpgoianimjaa.Pure Go.Proofs.YtkgdpgoianimjaaW.PrintWords Go.Proofs.YtkgdpgoianimjaaW.PrintLast Go.Proofs.YtkgdpgoianimjaaW.PrintMore
set_option linter.unusedVariables false
set_option linter.unusedSimpArgs false
theorem C_one (W : World) (x : Int) : Kd.C (Kd.int .i32) (W.alloc (.cells #[.int .i32 x] 21 (0, 0))) (some ⟨W.heap.size, 0, none⟩) 1 [x] := by
  refine ⟨rfl, by decide, fun _ => ⟨⟨W.heap.size, 0, none⟩, rfl, fun j y hy => ?_⟩⟩
  cases j with
  | succ j => simp at hy
  | zero =>
    simp only [List.getElem?_cons_zero, Option.some.injEq] at hy
    subst hy
    refine ⟨[.int .i32 x], rfl, rfl, fun i v hv => ?_⟩
    cases i with
    | succ i => simp at hv
    | zero =>
      simp only [List.getElem?_cons_zero, Option.some.injEq] at hv
      subst hv
      simp only [Nat.zero_mul, Addr.add_lit, Nat.add_zero]
      exact (blk_cell (heap_alloc_new W _) 0).trans rfl
end Go.Proofs.Ytkgdpgoianimjaa.Print
