/- Clear, the plain side; the reference's Clear. (Several texts, merged by this session's own program.) -/
import Derived.Test.YtkgdpgoianimjaaKpt
import Derived.Test.YtkgdpgoianimjaaKea
namespace Go.Proofs.Ytkgdpgoianimjaa.Pure
open Go.RowKit Go.Lib Go.Proofs.Ytkgdpgoianimjaa.Print Go.Proofs.Ytkgdpgoianimjaa.U Go.Proofs.Ytkgdpgoianimjaa.Utf Go.Proofs.YtkgdpgoianimjaaW.PrintWords
set_option linter.unusedVariables false
set_option linter.unusedSimpArgs false

/-- The code points of a text. -/
def rn (t : ByteArray) : List Int := runesFrom t t.size 0
def okS (t : ByteArray) : Prop := All (rn t) ∧ L t = encAll (rn t)
theorem idx_from (p : Nat → Bool) (s : ByteArray) : ∀ (f pos : Nat), decide (0 ≤ Lib.idxFuncFrom p true s f pos) = (runesFrom s f pos).any (fun r => p r.toNat)
  | 0, _ => by simp [Lib.idxFuncFrom, runesFrom]
  | f + 1, pos => by
    unfold Lib.idxFuncFrom runesFrom
    by_cases h : pos < s.size
    · rw [if_pos h, if_pos h, List.any_cons, Int.toNat_natCast]
      cases hp : p (Utf8.decode s pos).1 with
      | true => rw [if_pos rfl, Bool.true_or]; exact decide_eq_true (by omega)
      | false => rw [if_neg (by simp), Bool.false_or]; exact idx_from p s f _
    · rw [if_neg h, if_neg h]; rfl
theorem idx_any (p : Nat → Bool) (s : ByteArray) : decide (0 ≤ Lib.idxFunc p true s) = (rn s).any (fun r => p r.toNat) := idx_from p s s.size 0
theorem any_congr {α : Type} {l : List α} {f g : α → Bool} (h : ∀ x ∈ l, f x = g x) : l.any f = l.any g := by
  induction l with
  | nil => rfl
  | cons a l ih => rw [List.any_cons, List.any_cons, h a (by simp), ih (fun x hx => h x (by simp [hx]))]
theorem valid_pos {r : Int} (h : Lib.validRune r = true) : 0 ≤ r ∧ r ≤ 1114111 := by
  have := (ok_iff r).1 h
  omega
theorem dirty_any {z at_ pad : Int} {t : ByteArray} (h : okS t) : dirtyB z at_ pad t = (rn t).any (strangeB z at_ pad) := by
  unfold dirtyB
  rw [idx_any]
  refine any_congr fun r hr => ?_
  have := valid_pos (h.1 r hr)
  rw [Int.toNat_of_nonneg this.1]
/-- A text of code points. -/
theorem okS_of {t : ByteArray} {rs : List Int} (ha : All rs) (h : L t = encAll rs) : okS t ∧ rn t = rs := by
  have hr : rn t = rs := runesFrom_form t t.size 0 rs (by omega) ⟨ha, by simpa using h, .inl rfl⟩
  refine ⟨⟨by rw [hr]; exact ha, by rw [hr]; exact h⟩, hr⟩
theorem okS_good {t : ByteArray} (h : goodT t = true) : okS t := by
  have := of_decide_eq_true h
  exact runes_all t (by omega)
theorem encAll_appI (a b : List Int) : encAll (a ++ b) = encAll a ++ encAll b := by simp [encAll]
theorem rn_append {a b : ByteArray} (ha : okS a) (hb : okS b) : okS (a ++ b) ∧ rn (a ++ b) = rn a ++ rn b := by
  refine okS_of (fun x hx => ?_) ?_
  · rcases List.mem_append.1 hx with h | h
    · exact ha.1 x h
    · exact hb.1 x h
  · rw [encAll_appI, ← ha.2, ← hb.2]
    simp [L]
theorem ends_val (a s : ByteArray) (ha : a.size ≤ 1000000000) (hs : s.size ≤ 1000000000) : figureheadref18_Ends.f a s = some (sufB a s) := by
  unfold figureheadref18_Ends.f sufB Lib.hasSuffix
  have e1 : s.data.toList = L s := rfl
  have e2 : a.data.toList = L a := rfl
  rw [e1, e2]
  by_cases h : (a.size : Int) ≥ (s.size : Int)
  · rw [if_pos h, w64 (by omega) (by omega), if_pos (by omega), if_pos (by omega)]
    congr 1
    rw [toList_L, toList_L, U.L_ext, show ((a.size : Int) - (s.size : Int)).toNat = a.size - s.size by omega, List.take_of_length_le (by rw [List.length_drop, L_len]; omega)]
    rw [Bool.eq_iff_iff, List.isSuffixOf_iff_suffix, List.suffix_iff_eq_drop, L_len, L_len, beq_iff_eq]
    exact eq_comm
  · rw [if_neg h]
    congr 1
    symm
    rw [← Bool.not_eq_true, List.isSuffixOf_iff_suffix]
    intro hx
    have := hx.length_le
    rw [L_len, L_len] at this
    omega
/-! ### the reference's Has -/
def hasV (t : ByteArray) (l : List Int) : Bool := (rn t).any (fun r => l.any (fun x => r == x))
theorem rdI_at (l : List Int) (i : Nat) (h : i < l.length) : rd l (i : Int) = l[i] := by
  unfold rd
  simp [h]
theorem has_l1 (l m : List Int) (hl : l.length ≤ 1000000000) (hm : m.length ≤ 1000000000) (i : Nat) (hi : i < m.length) (R : Bool) (hR : Ev (fun k => figureheadref18_Has.l0 k l m ((i + 1 : Nat) : Int)) R) :
    ∀ (d j : Nat), j + d = l.length → Ev (fun k => figureheadref18_Has.l1 k l m (i : Int) (j : Int)) ((l.drop j).any (fun x => m[i] == x) || R)
  | 0, j, h => by
    refine succ ?_
    simp only [figureheadref18_Has.l1]
    rw [List.drop_of_length_le (by omega), List.any_nil, Bool.false_or]
    refine neg (by omega) ?_
    rw [w64 (by omega) (by omega)]
    exact hR
  | d + 1, j, h => by
    refine succ ?_
    simp only [figureheadref18_Has.l1]
    have hj : j < l.length := by omega
    rw [List.drop_eq_getElem_cons hj, List.any_cons, rdI_at m i hi, rdI_at l j hj]
    refine pos (by omega) (pos (by omega) (pos (by omega) (pos (by omega) ?_)))
    by_cases he : m[i] = l[j]
    · rw [show (m[i] == l[j]) = true from beq_iff_eq.2 he, Bool.true_or, Bool.true_or]
      exact pos he (Ev.now _)
    · rw [show (m[i] == l[j]) = false from beq_eq_false_iff_ne.2 he, Bool.false_or]
      refine neg he ?_
      rw [w64 (by omega) (by omega)]
      have := has_l1 l m hl hm i hi R hR d (j + 1) (by omega)
      simpa using this
theorem has_l0 (l m : List Int) (hl : l.length ≤ 1000000000) (hm : m.length ≤ 1000000000) : ∀ (d i : Nat), i + d = m.length → Ev (fun k => figureheadref18_Has.l0 k l m (i : Int)) ((m.drop i).any (fun r => l.any (fun x => r == x)))
  | 0, i, h => by
    refine succ ?_
    simp only [figureheadref18_Has.l0]
    rw [List.drop_of_length_le (by omega), List.any_nil]
    exact neg (by omega) (Ev.now _)
  | d + 1, i, h => by
    refine succ ?_
    simp only [figureheadref18_Has.l0]
    have hi : i < m.length := by omega
    rw [List.drop_eq_getElem_cons hi, List.any_cons]
    refine pos (by omega) ?_
    have := has_l1 l m hl hm i hi _ (has_l0 l m hl hm d (i + 1) (by omega)) l.length 0 (by omega)
    simpa using this
theorem rn_len (s : ByteArray) : ∀ f p, (runesFrom s f p).length ≤ f
  | 0, _ => Nat.le_refl _
  | f + 1, p => by
    unfold runesFrom
    split
    · rw [List.length_cons]; have := rn_len s f (p + (Utf8.decode s p).2); omega
    · simp
theorem has_ev (t : ByteArray) (l : List Int) (h : okS t) (ht : t.size ≤ 1000000000) (hl : l.length ≤ 1000000000) : Ev (fun k => figureheadref18_Has.f k t l) (hasV t l) := by
  simp only [figureheadref18_Has.f]
  refine Ev.bind (refRunes_ev t (by omega) (rn t) [] ⟨h.1, by rw [List.append_nil]; exact h.2, .inl rfl⟩) ?_
  unfold refRunesR
  rw [if_pos rfl]
  have := has_l0 l (rn t) hl (Nat.le_trans (rn_len t _ _) ht) (rn t).length 0 (by omega)
  simpa [hasV] using this
theorem has_calls (t : ByteArray) (l : List Int) (h : okS t) (ht : t.size ≤ 1000000000) (hl : l.length ≤ 1000000000) (A : Option Addr) (c : Nat) (w : World) (hC : Kd.C (Kd.int .i32) w A l.length l) (hc : l.length ≤ c) :
    Calls Try.prog 13 #[.string t, .slice A l.length c] w fun e w' => e = .returned (.bool (hasV t l)) ∧ Below w.heap.size w w' := by
  obtain ⟨k, hk⟩ := Ev.rounds (has_ev t l h ht hl)
  exact figureheadref18_Has.calls k t A c l _ w hC hc hk
theorem ends_calls (a s : ByteArray) (ha : a.size ≤ 1000000000) (hs : s.size ≤ 1000000000) (w : World) : Calls Try.prog 30 #[.string a, .string s] w fun e w' => e = .returned (.bool (sufB a s)) ∧ Below w.heap.size w w' :=
  (figureheadref18_Ends.calls a s _ w (ends_val a s ha hs)).mono fun e w' h => ⟨h.1, h.2.below⟩
/-! ### the texts of items -/
theorem okB_items (s3 s4 s5 s6 s7 : ByteArray) (h : goodT s3 = true ∧ goodT s4 = true ∧ goodT s5 = true ∧ goodT s6 = true ∧ goodT s7 = true) : ∀ (l : List S57) (b : List UInt8), itemsT s3 s4 s5 s6 s7 l = some b → ∃ rs, All rs ∧ b = encAll rs
  | [], b, hb => by
    simp only [itemsT, Option.some.injEq] at hb
    exact ⟨[], (fun x hx => by cases hx), hb.symm⟩
  | x :: l, b, hb => by
    simp only [itemsT, Option.bind_eq_some_iff, Option.map_eq_some_iff] at hb
    obtain ⟨a, ha, c, hc, rfl⟩ := hb
    obtain ⟨rs, h1, rfl⟩ := okB_items s3 s4 s5 s6 s7 h l c hc
    have key : ∃ qs, All qs ∧ a = encAll qs := by
      unfold itemT at ha
      split at ha
      · rename_i hs
        have hsg : goodT (sgn s3 s4 s5 s6 s7 x.f0).1 = true := by
          revert hs
          unfold sgn
          repeat' split
          all_goals (intro hs; first | exact h.1 | exact h.2.1 | exact h.2.2.1 | exact h.2.2.2.1 | exact h.2.2.2.2 | (simp at hs))
        have := okS_good hsg
        exact ⟨_, this.1, (Option.some.inj ha).symm.trans this.2⟩
      split at ha
      · rename_i hs
        refine ⟨[x.f1], fun y hy => ?_, ?_⟩
        · rw [List.mem_singleton.1 hy]; exact hs.2
        · rw [← Option.some.inj ha]; simp [encAll]
      · cases ha
    obtain ⟨qs, h2, rfl⟩ := key
    refine ⟨qs ++ rs, fun y hy => ?_, by rw [encAll_appI]⟩
    rcases List.mem_append.1 hy with hy | hy
    · exact h2 y hy
    · exact h1 y hy
end Go.Proofs.Ytkgdpgoianimjaa.Pure
namespace Go.Proofs.Ytkgdpgoianimjaa.Print
variable {v0 v1 v2 v3 v4 v5 v6 v7 v8 v9 v10 v11 v12 v13 v14 v15 v16 v17 v18 v19 v20 v21 v22 v23 v24 v25 v26 v27 v28 v29 v30 v31 v32 v33 v34 v35 v36 v37 v38 v39 v40 v41 v42 v43 v44 v45 v46 v47 v48 v49 v50 v51 v52 v53 v54 v55 v56 v57 v58 v59 v60 v61 v62 v63 v64 v65 v66 v67 v68 v69 v70 v71 v72 v73 v74 v75 v76 v77 v78 v79 v80 v81 v82 v83 v84 v85 v86 v87 v88 v89 v90 v91 v92 v93 v94 v95 v96 v97 v98 v99 v100 v101 v102 v103 v104 v105 v106 v107 v108 v109 v110 v111 v112 v113 v114 : Value}
open Go.RowKit Go.Lib Go.Proofs.Ytkgdpgoianimjaa.Utf Go.Proofs.Ytkgdpgoianimjaa.Pure Go.Proofs.YtkgdpgoianimjaaW.PrintWords Go.Proofs.YtkgdpgoianimjaaW.PrintLast Go.Proofs.YtkgdpgoianimjaaW.PrintMore
set_option linter.unusedVariables false
set_option linter.unusedSimpArgs false
def dgs (z : Int) (n : Nat) : List Int := (List.range n).map (fun k : Nat => z + (k : Int))
theorem dgs_len (z : Int) (n : Nat) : (dgs z n).length = n := by simp [dgs]
theorem dgs_succ (z : Int) (n : Nat) : dgs z (n + 1) = dgs z n ++ [z + n] := by simp [dgs, List.range_succ]
def tailR (a b c d s1 s2 s3 s4 : ByteArray) (B6 B7 : Bool) : Bool := if (((a.toList == c.toList) && (b.toList == d.toList)) || (B6 || B7)) = true then false else (!(s2.toList == s1.toList)) && (!(s4.toList == s3.toList))
def drB (z at_ pad : Int) (t : ByteArray) : Bool := hasV t (dgs z 10) || (decide (0 < at_) && hasV t [pad])
def refB (z at_ pad : Int) (s1 s2 s3 s4 s8 a b c d : ByteArray) : Bool :=
  if [a, b, c, d, s1, s2, s3, s4, s8].any (drB z at_ pad) = true then false else if (decide (0 < at_) && hasV (bytesB pad) (dgs z 10)) = true then false else tailR a b c d s1 s2 s3 s4 (sufB a s1) (sufB c s1)
noncomputable def crBody : Code := (Try.f12.body).getD .skip
noncomputable def Cr (k : Nat) : Code := restOf k crBody
/-- What may be asked of the texts. -/
structure Cx (s1 s2 s3 s4 s8 a b c d : ByteArray) : Prop where
  ok : ∀ t, t ∈ [a, b, c, d, s1, s2, s3, s4, s8] → okS t ∧ t.size ≤ 1000000000
set_option maxHeartbeats 16000000 in
set_option maxRecDepth 1000000 in
theorem cr7 (w W : World) (z : Int) (s1 s2 s3 s4 s8 a b c d : ByteArray) (at_ pad : Int) (gs gp : Nat) (r : Bool) (hr : r = tailR a b c d s1 s2 s3 s4 (sufB a s1) (sufB c s1)) (hb : Below w.heap.size w W)
    (hcv : ∀ W', Below W.heap.size W W' → Cv W' gs gp z at_ pad s1 s2 s3 s4 s8) (hx : Cx s1 s2 s3 s4 s8 a b c d) :
    Code.wp Try.prog (Cr 7) (bodyPost Try.prog Try.f12 (BPost r w)) ⟨#[v0,v1, .pointer (some ⟨gp, 0, none⟩), .pointer (some ⟨gs, 0, none⟩),v4, .string a, .string b, .string c, .string d,v9,v10,v11,v12,v13,v14,v15,v16,v17,v18,v19,v20,v21,v22,v23,v24,v25,v26,v27,v28,v29,v30,v31,v32,v33,v34,v35,v36,v37,v38,v39,v40,v41,v42,v43,v44,v45,v46,v47,v48,v49,v50,v51,v52,v53,v54,v55,v56,v57,v58,v59,v60,v61,v62,v63,v64,v65,v66,v67,v68,v69,v70,v71,v72,v73,v74,v75,v76,v77,v78,v79,v80,v81,v82,v83,v84,v85,v86,v87,v88,v89,v90,v91,v92,v93,v94,v95,v96,v97,v98,v99,v100,v101,v102,v103,v104,v105,v106,v107,v108,v109,v110,v111,v112,v113,v114], []⟩ W := by
  obtain ⟨B6, hB6⟩ : ∃ B, B = sufB a s1 := ⟨_, rfl⟩
  obtain ⟨B7, hB7⟩ : ∃ B, B = sufB c s1 := ⟨_, rfl⟩
  rw [← hB6, ← hB7] at hr
  have hsz : ∀ t, t ∈ [a, b, c, d, s1, s2, s3, s4, s8] → t.size ≤ 1000000000 := fun t h => (hx.ok t h).2
  have HC6 : Hid (∀ W, Calls Try.prog 30 #[.string a, .string s1] W fun e w' => e = .returned (.bool B6) ∧ Below W.heap.size W w') := Lib.hid fun W => by rw [hB6]; exact ends_calls a s1 (hsz a (by simp)) (hsz s1 (by simp)) W
  have HC7 : Hid (∀ W, Calls Try.prog 30 #[.string c, .string s1] W fun e w' => e = .returned (.bool B7) ∧ Below W.heap.size W w') := Lib.hid fun W => by rw [hB7]; exact ends_calls c s1 (hsz c (by simp)) (hsz s1 (by simp)) W
  have HR := Lib.hid hr
  have HCV := Lib.hid hcv
  have HB := Lib.hid hb
  have HB0 : Hid (Below W.heap.size W W) := Lib.hid (Below.refl _ _)
  obtain ⟨f0, f1, f2, f3, f4, f8, p17, p18⟩ := hcv W (Below.refl _ _)
  clear hr hcv hb hB6 hB7 hsz hx
  rw [show Cr 7 = .seq (stmtOf 7 crBody) (.seq (stmtOf 8 crBody) (Cr 9)) from by kernel_rfl]
  have hz7 : stmtOf 7 crBody = stmtOf 7 crBody := rfl
  conv at hz7 => rhs; whnf
  rw [hz7]; clear hz7
  have hz8 : stmtOf 8 crBody = stmtOf 8 crBody := rfl
  conv at hz8 => rhs; whnf
  rw [hz8]; clear hz8
  rw [show Cr 9 = Code.ret from by kernel_rfl]
  cases B6 with
  | true =>
    go_wp2_with (first
      | (go_at_call 30; (with_reducible refine (HC6.out _).mono ?_); rintro e1 W1 ⟨rfl, b1⟩; have HB0 := Lib.hid (below_step HB0.out b1); obtain ⟨f0, f1, f2, f3, f4, f8, p17, p18⟩ := HCV.out W1 HB0.out; clear b1)
      | (go_at_call 30; (with_reducible refine (HC7.out _).mono ?_); rintro e1 W1 ⟨rfl, b1⟩; have HB0 := Lib.hid (below_step HB0.out b1); obtain ⟨f0, f1, f2, f3, f4, f8, p17, p18⟩ := HCV.out W1 HB0.out; clear b1))
    all_goals go_ret
    all_goals refine ⟨?_, below_step HB.out HB0.out⟩
    all_goals (rw [HR.out]; unfold tailR; simp_all)
  | false =>
    cases B7 <;>
    · go_wp2_with (first
        | (go_at_call 30; (with_reducible refine (HC6.out _).mono ?_); rintro e1 W1 ⟨rfl, b1⟩; have HB0 := Lib.hid (below_step HB0.out b1); obtain ⟨f0, f1, f2, f3, f4, f8, p17, p18⟩ := HCV.out W1 HB0.out; clear b1)
        | (go_at_call 30; (with_reducible refine (HC7.out _).mono ?_); rintro e1 W1 ⟨rfl, b1⟩; have HB0 := Lib.hid (below_step HB0.out b1); obtain ⟨f0, f1, f2, f3, f4, f8, p17, p18⟩ := HCV.out W1 HB0.out; clear b1))
      all_goals go_ret
      all_goals refine ⟨?_, below_step HB.out HB0.out⟩
      all_goals (rw [HR.out]; unfold tailR; simp_all)
theorem okS_bytes {r : Int} (h : Lib.validRune r = true) : okS (bytesB r) ∧ rn (bytesB r) = [r] := by
  refine okS_of (rs := [r]) (fun x hx => by rw [List.mem_singleton.1 hx]; exact h) ?_
  unfold bytesB
  rw [refBytes_val r h, Option.getD_some]
  simpa [encAll] using L_str_enc r
set_option maxHeartbeats 16000000 in
set_option maxRecDepth 1000000 in
theorem cr6 (w W : World) (z : Int) (s1 s2 s3 s4 s8 a b c d : ByteArray) (at_ pad : Int) (gs gp : Nat) (AD : Option Addr) (cD : Nat) (r : Bool) (hr : r = if (decide (0 < at_) && hasV (bytesB pad) (dgs z 10)) = true then false else tailR a b c d s1 s2 s3 s4 (sufB a s1) (sufB c s1)) (hb : Below w.heap.size w W)
    (hcv : ∀ W', Below W.heap.size W W' → Cv W' gs gp z at_ pad s1 s2 s3 s4 s8) (hx : Cx s1 s2 s3 s4 s8 a b c d) (hdg : Kd.C (Kd.int .i32) W AD 10 (dgs z 10)) (hcD : 10 ≤ cD) (hpad : 0 < at_ → Lib.validRune pad = true) :
    Code.wp Try.prog (Cr 6) (bodyPost Try.prog Try.f12 (BPost r w)) ⟨#[v0,v1, .pointer (some ⟨gp, 0, none⟩), .pointer (some ⟨gs, 0, none⟩),v4, .string a, .string b, .string c, .string d, .slice AD 10 cD,v10,v11,v12,v13,v14,v15,v16,v17,v18,v19,v20,v21,v22,v23,v24,v25,v26,v27,v28,v29,v30,v31,v32,v33,v34,v35,v36,v37,v38,v39,v40,v41,v42,v43,v44,v45,v46,v47,v48,v49,v50,v51,v52,v53,v54,v55,v56,v57,v58,v59,v60,v61,v62,v63,v64,v65,v66,v67,v68,v69,v70,v71,v72,v73,v74,v75,v76,v77,v78,v79,v80,v81,v82,v83,v84,v85,v86,v87,v88,v89,v90,v91,v92,v93,v94,v95,v96,v97,v98,v99,v100,v101,v102,v103,v104,v105,v106,v107,v108,v109,v110,v111,v112,v113,v114], []⟩ W := by
  obtain ⟨f0, f1, f2, f3, f4, f8, p17, p18⟩ := hcv W (Below.refl _ _)
  by_cases hat : 0 < at_
  · have t1 : decide (0 < at_) = true := decide_eq_true hat
    rw [t1, Bool.true_and] at hr
    obtain ⟨ok1, ok2⟩ := okS_bytes (hpad hat)
    obtain ⟨t, h1, h2⟩ := bytes_ex pad
    have hbt : bytesB pad = strOfNums t := by unfold bytesB; rw [h1]; rfl
    have hsz4 := bytesB_size pad
    obtain ⟨B, hB⟩ : ∃ B, B = hasV (bytesB pad) (dgs z 10) := ⟨_, rfl⟩
    have HH : Hid (∀ W', Below W.heap.size W W' → Calls Try.prog 13 #[.string (strOfNums t), .slice AD 10 cD] W' fun e w' => e = .returned (.bool B) ∧ Below W'.heap.size W' w') := Lib.hid fun W' hW => by
      have := has_calls (bytesB pad) (dgs z 10) ok1 (by omega) (by rw [dgs_len]; decide) AD cD W' (by rw [dgs_len]; exact Kd.C_below hdg hW) (by rw [dgs_len]; exact hcD)
      rw [dgs_len, ← hB, hbt] at this
      exact this
    rw [← hB] at hr
    have HT := Lib.hid h1
    have HR := Lib.hid hr
    have HB := Lib.hid hb
    have HALL := Lib.hid (And.intro hcv hx)
    have ht4 : t.length ≤ 4 := h2
    clear hr hb hcv hx hdg hcD hpad hbt hsz4 hB h1 ok1 ok2 h2
    rw [show Cr 6 = .seq (stmtOf 6 crBody) (Cr 7) from by kernel_rfl]
    have hz6 : stmtOf 6 crBody = stmtOf 6 crBody := rfl
    conv at hz6 => rhs; whnf
    rw [hz6]; clear hz6
    cases B with
    | true =>
      go_wp2_with (first
        | (go_at_call 29; (with_reducible refine (figureheadref11_Bytes.calls pad t _ HT.out).mono ?_); rintro e W5 ⟨v161, rfl, ho0, b5⟩; have HB5 := Lib.hid b5; have hcv := own_string (P := Try.prog) Try.underlying68 Try.underlying5 Try.underlying9 (Kd.own_of_R ho0); clear ho0 b5)
        | (go_at_call 13; (with_reducible refine (HH.out _ HB5.out).mono ?_); rintro e W6 ⟨rfl, b6⟩; have HB6 := Lib.hid (below_step HB5.out b6); clear b6))
      go_ret
      exact ⟨by rw [HR.out]; rfl, below_step HB.out HB6.out⟩
    | false =>
      go_wp2_with (first
        | (go_at_call 29; (with_reducible refine (figureheadref11_Bytes.calls pad t _ HT.out).mono ?_); rintro e W5 ⟨v161, rfl, ho0, b5⟩; have HB5 := Lib.hid b5; have hcv := own_string (P := Try.prog) Try.underlying68 Try.underlying5 Try.underlying9 (Kd.own_of_R ho0); clear ho0 b5)
        | (go_at_call 13; (with_reducible refine (HH.out _ HB5.out).mono ?_); rintro e W6 ⟨rfl, b6⟩; have HB6 := Lib.hid (below_step HB5.out b6); clear b6))
      exact cr7 w W6 z s1 s2 s3 s4 s8 a b c d at_ pad gs gp r HR.out (below_step HB.out HB6.out) (fun W' h => HALL.out.1 W' (below_step HB6.out h)) HALL.out.2
  · have t1 : decide (0 < at_) = false := decide_eq_false hat
    rw [t1, Bool.false_and, if_neg (by simp)] at hr
    have HALL := Lib.hid (And.intro hr (And.intro hb (And.intro hcv hx)))
    clear hr hb hcv hx hdg hpad hat
    rw [show Cr 6 = .seq (stmtOf 6 crBody) (Cr 7) from by kernel_rfl]
    have hz6 : stmtOf 6 crBody = stmtOf 6 crBody := rfl
    conv at hz6 => rhs; whnf
    rw [hz6]; clear hz6
    go_wp2
    obtain ⟨hr, hb, hcv, hx⟩ := HALL.out
    exact cr7 w W z s1 s2 s3 s4 s8 a b c d at_ pad gs gp r hr hb hcv hx
open Go.RowKit Go.Lib Go.Proofs.Ytkgdpgoianimjaa.Utf Go.Proofs.Ytkgdpgoianimjaa.Pure Go.Proofs.YtkgdpgoianimjaaW.PrintWords Go.Proofs.YtkgdpgoianimjaaW.PrintLast Go.Proofs.YtkgdpgoianimjaaW.PrintMore
set_option linter.unusedVariables false
set_option linter.unusedSimpArgs false
theorem C_one (W : World) (x : Int) : Kd.C (Kd.int .i32) (W.alloc (.cells #[.int .i32 x] 21 (0, 0))) (some ⟨W.heap.size, 0, none⟩) 1 [x] := by
  refine ⟨rfl, by decide, fun _ => ⟨⟨W.heap.size, 0, none⟩, rfl, fun j y hy => ?_⟩⟩
  cases j with
  | succ j => simp at hy
  | zero =>
    simp only [List.getElem?_cons_zero, Option.some.injEq] at hy
    subst hy
    refine ⟨[.int .i32 x], rfl, rfl, fun i v hv => ?_⟩
    cases i with
    | succ i => simp at hv
    | zero =>
      simp only [List.getElem?_cons_zero, Option.some.injEq] at hv
      subst hv
      simp only [Nat.zero_mul, Addr.add_lit, Nat.add_zero]
      exact (blk_cell (heap_alloc_new W _) 0).trans rfl
set_option maxHeartbeats 16000000 in
set_option maxRecDepth 1000000 in
theorem cr5 (w W : World) (z : Int) (s1 s2 s3 s4 s8 a b c d : ByteArray) (at_ pad : Int) (gs gp : Nat) (AD : Option Addr) (cD : Nat) (r : Bool) (hr : r = refB z at_ pad s1 s2 s3 s4 s8 a b c d) (hb : Below w.heap.size w W)
    (hcv : ∀ W', Below W.heap.size W W' → Cv W' gs gp z at_ pad s1 s2 s3 s4 s8) (hx : Cx s1 s2 s3 s4 s8 a b c d) (hdg : Kd.C (Kd.int .i32) W AD 10 (dgs z 10)) (hcD : 10 ≤ cD) (hpad : 0 < at_ → Lib.validRune pad = true) :
    Code.wp Try.prog (Cr 5) (bodyPost Try.prog Try.f12 (BPost r w)) ⟨#[v0,v1, .pointer (some ⟨gp, 0, none⟩), .pointer (some ⟨gs, 0, none⟩),v4, .string a, .string b, .string c, .string d, .slice AD 10 cD,v10,v11,v12,v13,v14,v15,v16,v17,v18,v19,v20,v21,v22,v23,v24,v25,v26,v27,v28,v29,v30,v31,v32,v33,v34,v35,v36,v37,v38,v39,v40,v41,v42,v43,v44,v45,v46,v47,v48,v49,v50,v51,v52,v53,v54,v55,v56,v57,v58,v59,v60,v61,v62,v63,v64,v65,v66,v67,v68,v69,v70,v71,v72,v73,v74,v75,v76,v77,v78,v79,v80,v81,v82,v83,v84,v85,v86,v87,v88,v89,v90,v91,v92,v93,v94,v95,v96,v97,v98,v99,v100,v101,v102,v103,v104,v105,v106,v107,v108,v109,v110,v111,v112,v113,v114], []⟩ W := by
  obtain ⟨ts, hts⟩ : ∃ ts, ts = [a, b, c, d, s1, s2, s3, s4, s8] := ⟨_, rfl⟩
  have hlen : ts.length = 9 := by rw [hts]; rfl
  have hcell : ∀ (W' : World) (g : Nat), W'.heap[g]? = some (.cells #[.string a, .string b, .string c, .string d, .string s1, .string s2, .string s3, .string s4, .string s8] 9 (0, 0)) → ∀ i t, ts[i]? = some t → W'.cell? ⟨g, i, none⟩ = some (.string t) := fun W' g hg i t ht => by
    rw [blk_cell hg i]
    have h9 : (#[.string a, .string b, .string c, .string d, .string s1, .string s2, .string s3, .string s4, .string s8] : Array Value) = ([a, b, c, d, s1, s2, s3, s4, s8].map Value.string).toArray := rfl
    rw [h9, List.getElem?_toArray, List.getElem?_map, ← hts, ht]
    rfl
  have hH1 : ∀ t, t ∈ ts → ∀ W', Below W.heap.size W W' → Calls Try.prog 13 #[.string t, .slice AD 10 cD] W' fun e w' => e = .returned (.bool (hasV t (dgs z 10))) ∧ Below W'.heap.size W' w' := fun t ht W' hW => by
    have h := hx.ok t (by rw [← hts]; exact ht)
    have := has_calls t (dgs z 10) h.1 h.2 (by rw [dgs_len]; decide) AD cD W' (by rw [dgs_len]; exact Kd.C_below hdg hW) (by rw [dgs_len]; exact hcD)
    rwa [dgs_len] at this
  have hH2 : ∀ t, t ∈ ts → ∀ W', Calls Try.prog 13 #[.string t, .slice (some ⟨W'.heap.size, 0, none⟩) 1 1] (W'.alloc (.cells #[.int .i32 pad] 21 (0, 0))) fun e w' => e = .returned (.bool (hasV t [pad])) ∧ Below W'.heap.size W' w' := fun t ht W' => by
    have h := hx.ok t (by rw [← hts]; exact ht)
    exact (has_calls t [pad] h.1 h.2 (by simp) _ 1 _ (C_one W' pad) (by simp)).mono fun e w' h => ⟨h.1, below_step (below_alloc (Below.refl _ _) _) h.2⟩
  have hr2 : r = if ts.any (drB z at_ pad) = true then false else if (decide (0 < at_) && hasV (bytesB pad) (dgs z 10)) = true then false else tailR a b c d s1 s2 s3 s4 (sufB a s1) (sufB c s1) := by rw [hr, hts]; rfl
  have HR := Lib.hid hr2
  have HH1 := Lib.hid hH1
  have HH2 := Lib.hid hH2
  have HCELL := Lib.hid hcell
  have HLEN := Lib.hid hlen
  have HCV := Lib.hid hcv
  have HALL := Lib.hid (And.intro hb (And.intro hx (And.intro hdg (And.intro hcD hpad))))
  have HB0 : Hid (Below W.heap.size W (W.alloc (.cells #[.string a, .string b, .string c, .string d, .string s1, .string s2, .string s3, .string s4, .string s8] 9 (0, 0)))) := Lib.hid (below_alloc (Below.refl _ _) _)
  have HG0 : Hid ((W.alloc (.cells #[.string a, .string b, .string c, .string d, .string s1, .string s2, .string s3, .string s4, .string s8] 9 (0, 0))).heap[W.heap.size]? = some (.cells #[.string a, .string b, .string c, .string d, .string s1, .string s2, .string s3, .string s4, .string s8] 9 (0, 0))) := Lib.hid (heap_alloc_new W _)
  obtain ⟨f0, f1, f2, f3, f4, f8, p17, p18⟩ := hcv W (Below.refl _ _)
  clear hr hr2 hb hcv hx hdg hcD hpad hH1 hH2 hcell hlen hts
  rw [show Cr 5 = .seq (stmtOf 5 crBody) (Cr 6) from by kernel_rfl]
  have hz5 : stmtOf 5 crBody = stmtOf 5 crBody := rfl
  conv at hz5 => rhs; whnf
  rw [hz5]; clear hz5
  go_wp2
  go_loopw [12, 52] (fun v12 v52 wx => ∃ i : Nat, v52 = .int .i64 (i : Int) ∧ i ≤ 9 ∧ Below W.heap.size W wx ∧ wx.heap[W.heap.size]? = some (.cells #[.string a, .string b, .string c, .string d, .string s1, .string s2, .string s3, .string s4, .string s8] 9 (0, 0)) ∧ Hid ((ts.take i).any (drB z at_ pad) = false)) (fun v12 v52 wx => 9 - (RowKit.intOf v52).toNat)
  case atStart => exact ⟨0, rfl, by omega, HB0.out, HG0.out, Lib.hid rfl⟩
  case round =>
    clear f0 f1 f2 f3 f4 f8 p17 p18 HB0 HG0
    obtain ⟨i, rfl, hil, hb1, hg1, hgo⟩ := hrel
    have HB1 := Lib.hid hb1
    have HG1 := Lib.hid hg1
    clear hb1 hg1
    by_cases hi : i < 9
    · obtain ⟨t, ht⟩ : ∃ t, ts[i]? = some t := ⟨_, List.getElem?_eq_getElem (by rw [HLEN.out]; exact hi)⟩
      have htm := List.mem_of_getElem? ht
      have hix := fun W' => idx_strs W.heap.size 9 9 i W' hi
      have hc := HCELL.out wr W.heap.size HG1.out i t ht
      have HA := Lib.hid (HH1.out t htm)
      have HA2 := Lib.hid (HH2.out t htm)
      have HT := Lib.hid ht
      have hdt : drB z at_ pad t = (hasV t (dgs z 10) || (decide (0 < at_) && hasV t [pad])) := rfl
      obtain ⟨b1, hb1⟩ : ∃ b, b = hasV t (dgs z 10) := ⟨_, rfl⟩
      obtain ⟨b2, hb2⟩ : ∃ b, b = hasV t [pad] := ⟨_, rfl⟩
      rw [← hb1, ← hb2] at hdt
      rw [← hb1] at HA
      rw [← hb2] at HA2
      have HDT := Lib.hid hdt
      clear hb1 hb2 hdt htm ht
      cases b1 with
      | true =>
        have HAny : Hid (ts.any (drB z at_ pad) = true) := Lib.hid (any_at _ ts i t HT.out (by rw [HDT.out, Bool.true_or]))
        obtain ⟨_, _, _, _, _, _, p17, p18⟩ := HCV.out wr HB1.out
        go_wp2_with (go_at_call 13; (with_reducible refine (HA.out _ HB1.out).mono ?_); rintro e1 W1 ⟨rfl, c1⟩; have HB2 := Lib.hid (below_step HB1.out c1); clear c1)
        go_ret
        exact ⟨by rw [HR.out, HAny.out]; rfl, below_step HALL.out.1 HB2.out⟩
      | false =>
        by_cases hat : 0 < at_
        · have t1 : decide (0 < at_) = true := decide_eq_true hat
          have hdt := HDT.out
          rw [t1, Bool.true_and, Bool.false_or] at hdt
          cases b2 with
          | true =>
            have HAny : Hid (ts.any (drB z at_ pad) = true) := Lib.hid (any_at _ ts i t HT.out hdt)
            clear hdt hat
            go_wp2_with (first
              | (go_at_call 13; (with_reducible refine (HA.out _ HB1.out).mono ?_); rintro e1 W1 ⟨rfl, c1⟩; have HB2 := Lib.hid (below_step HB1.out c1); obtain ⟨_, _, _, _, _, _, p17, p18⟩ := HCV.out W1 HB2.out; clear c1)
              | (go_at_call 13; (with_reducible refine (HA2.out _).mono ?_); rintro e1 W3 ⟨rfl, c1⟩; have HB3 := Lib.hid (below_step HB2.out c1); clear c1))
            go_ret
            exact ⟨by rw [HR.out, HAny.out]; rfl, below_step HALL.out.1 HB3.out⟩
          | false =>
            have HAny : Hid ((ts.take (i + 1)).any (drB z at_ pad) = false) := Lib.hid (by rw [any_take _ ts i t HT.out hgo.out, hdt])
            clear hdt hat hgo
            go_wp2_with (first
              | (go_at_call 13; (with_reducible refine (HA.out _ HB1.out).mono ?_); rintro e1 W1 ⟨rfl, c1⟩; have HB2 := Lib.hid (below_step HB1.out c1); have HG2 := Lib.hid (heap_keeps c1 HG1.out); obtain ⟨_, _, _, _, _, _, p17, p18⟩ := HCV.out W1 HB2.out; clear c1)
              | (go_at_call 13; (with_reducible refine (HA2.out _).mono ?_); rintro e1 W3 ⟨rfl, c1⟩; have HB3 := Lib.hid (below_step HB2.out c1); have HG3 := Lib.hid (heap_keeps c1 HG2.out); clear c1))
            go_roundw
            case rel => exact ⟨i + 1, by go_num, by omega, HB3.out, HG3.out, HAny⟩
            case measure => simp [RowKit.intOf]; omega
        · have t1 : decide (0 < at_) = false := decide_eq_false hat
          have HAny : Hid ((ts.take (i + 1)).any (drB z at_ pad) = false) := Lib.hid (by rw [any_take _ ts i t HT.out hgo.out, HDT.out, t1]; rfl)
          clear hgo hat
          go_wp2_with (go_at_call 13; (with_reducible refine (HA.out _ HB1.out).mono ?_); rintro e1 W1 ⟨rfl, c1⟩; have HB2 := Lib.hid (below_step HB1.out c1); have HG2 := Lib.hid (heap_keeps c1 HG1.out); obtain ⟨_, _, _, _, _, _, p17, p18⟩ := HCV.out W1 HB2.out; clear c1)
          go_roundw
          case rel => exact ⟨i + 1, by go_num, by omega, HB2.out, HG2.out, HAny⟩
          case measure => simp [RowKit.intOf]; omega
    · have hie : i = 9 := by omega
      subst hie
      have hany : ts.any (drB z at_ pad) = false := by have := hgo.out; rwa [List.take_of_length_le (by rw [HLEN.out]; omega)] at this
      have hr3 := HR.out
      rw [hany, if_neg (by simp)] at hr3
      have HR3 := Lib.hid hr3
      clear hgo hany hr3
      go_wp2
      obtain ⟨hb, hx, hdg, hcD, hpad⟩ := HALL.out
      exact cr6 w wr z s1 s2 s3 s4 s8 a b c d at_ pad gs gp AD cD r HR3.out (below_step hb HB1.out) (fun W' h => HCV.out W' (below_step HB1.out h)) hx (Kd.C_below hdg HB1.out) hcD hpad
set_option maxHeartbeats 16000000 in
set_option maxRecDepth 1000000 in
theorem cr3 (w W : World) (z : Int) (s1 s2 s3 s4 s8 a b c d : ByteArray) (at_ pad : Int) (gs gp : Nat) (r : Bool) (hr : r = refB z at_ pad s1 s2 s3 s4 s8 a b c d) (hb : Below w.heap.size w W)
    (hcv : ∀ W', Below W.heap.size W W' → Cv W' gs gp z at_ pad s1 s2 s3 s4 s8) (hx : Cx s1 s2 s3 s4 s8 a b c d) (hz : 0 ≤ z ∧ z ≤ 1114102) (hpad : 0 < at_ → Lib.validRune pad = true) :
    Code.wp Try.prog (Cr 3) (bodyPost Try.prog Try.f12 (BPost r w)) ⟨#[v0,v1, .pointer (some ⟨gp, 0, none⟩), .pointer (some ⟨gs, 0, none⟩),v4, .string a, .string b, .string c, .string d,v9,v10,v11,v12,v13,v14,v15,v16,v17,v18,v19,v20,v21,v22,v23,v24,v25,v26,v27,v28,v29,v30,v31,v32,v33,v34,v35,v36,v37,v38,v39,v40,v41,v42,v43,v44,v45,v46,v47,v48,v49,v50,v51,v52,v53,v54,v55,v56,v57,v58,v59,v60,v61,v62,v63,v64,v65,v66,v67,v68,v69,v70,v71,v72,v73,v74,v75,v76,v77,v78,v79,v80,v81,v82,v83,v84,v85,v86,v87,v88,v89,v90,v91,v92,v93,v94,v95,v96,v97,v98,v99,v100,v101,v102,v103,v104,v105,v106,v107,v108,v109,v110,v111,v112,v113,v114], []⟩ W := by
  have HALL := Lib.hid (And.intro hr (And.intro hb (And.intro hx hpad)))
  have HCV := Lib.hid hcv
  obtain ⟨hz0, hz1⟩ := hz
  clear hr hb hcv hx hpad
  rw [show Cr 3 = .seq (stmtOf 3 crBody) (.seq (stmtOf 4 crBody) (Cr 5)) from by kernel_rfl]
  have hz3 : stmtOf 3 crBody = stmtOf 3 crBody := rfl
  conv at hz3 => rhs; whnf
  rw [hz3]; clear hz3
  have hz4 : stmtOf 4 crBody = stmtOf 4 crBody := rfl
  conv at hz4 => rhs; whnf
  rw [hz4]; clear hz4
  go_wp2
  go_loopw [9, 10] (fun v9 v10 wx => ∃ k : Nat, v10 = .int .i32 (k : Int) ∧ k ≤ 10 ∧ Kd.R (Kd.int .i32) 21 wx W.heap.size (fun _ => True) v9 (dgs z k) ∧ Below W.heap.size W wx) (fun v9 v10 wx => 10 - (RowKit.intOf v10).toNat)
  case atStart => exact ⟨0, rfl, by omega, Kd.R_nil _ _ _ _ _, Below.refl _ _⟩
  case round =>
    obtain ⟨k, rfl, hk, hR, hb1⟩ := hrel
    have HRD := Lib.hid hR
    have HB1 := Lib.hid hb1
    have hsz1 : W.heap.size ≤ wr.heap.size := hb1.size
    clear hb1 hR
    by_cases hi : k < 10
    · obtain ⟨f0, _⟩ := HCV.out wr HB1.out
      have hw1 : IntKind.i32.wrap (z + (k : Int)) = z + (k : Int) := by rw [IntKind.wrap_i32]; omega
      have hki : (k : Int) < 10 := by omega
      have hlen : (dgs z k).length = k := dgs_len z k
      go_wp2_with (((with_reducible refine gate_builtin (b := .append) (xs := #[.tmp 29, .tmp 34]) rfl ?_); at_builtin; refine Kd.R_append (Kd.int .i32) (w0 := W) W.heap.size rfl (.tmp 29) (.tmp 34) 39 21 (.int .i32 0) 4 rfl (by kernel_rfl) (by kernel_rfl) rfl (by decide) (by omega) _ (dgs z k) (z + (k : Int)) [.int .i32 (z + (k : Int))] (fun _ => True) (fun _ => False) rfl (by simp [Act.eval]) ?aP (fun _ hk => hk.elim) (fun _ _ => trivial) HRD.out HB1.out hsz1 (by omega) ?_; (case aP => rfl); intro v140 w10 ho hb hg hat; have HO := Lib.hid ho; have HB := Lib.hid hb; clear ho hb hg hat))
      go_roundw
      case rel => exact ⟨k + 1, by go_num, by omega, by rw [dgs_succ]; exact HO.out, HB.out⟩
      case measure => simp [RowKit.intOf]; omega
    · have hke : k = 10 := by omega
      subst hke
      obtain ⟨A, c', e9⟩ := Kd.R_slice HRD.out
      rw [dgs_len] at e9
      subst e9
      go_wp2
      obtain ⟨hr, hb, hx, hpad⟩ := HALL.out
      obtain ⟨_, q2, q3⟩ := Kd.R_reads' HRD.out
      rw [dgs_len] at q3
      exact cr5 w wr z s1 s2 s3 s4 s8 a b c d at_ pad gs gp A c' r hr (below_step hb HB1.out) (fun W' h => HCV.out W' (below_step HB1.out h)) hx q3 q2 hpad
set_option maxHeartbeats 16000000 in
set_option maxRecDepth 1000000 in
/-- THE REFERENCE'S CLEAR'S CONTRACT. -/
theorem refClear_calls (z : Int) (s1 s2 s3 s4 s5 s6 s7 s8 : ByteArray) (w0 w1 w3 w4 : Value) (hn : Bool) (p : N.NP) (at_ pad width : Int) (l0 l1 l3 l4 : List S57) (T : List S57 → ByteArray) (w : World)
    (h0 : Rw w w0 l0) (h1 : Rw w w1 l1) (h3 : Rw w w3 l3) (h4 : Rw w w4 l4)
    (HT : ∀ l, (l = l0 ∨ l = l1 ∨ l = l3 ∨ l = l4) → ∀ (W : World) (A : Option Addr) (c : Nat), Kd.C k57 W A l.length l → l.length ≤ c → Calls Try.prog 22 #[.agg (symC z s1 s2 s3 s4 s5 s6 s7 s8), .slice A l.length c] W fun e w' => e = .returned (.string (T l)) ∧ Below W.heap.size W w')
    (hx : Cx s1 s2 s3 s4 s8 (T l0) (T l1) (T l3) (T l4)) (hz : 0 ≤ z ∧ z ≤ 1114102) (hpad : 0 < at_ → Lib.validRune pad = true) :
    Calls Try.prog 12 #[.agg (patP w0 w1 hn w3 w4 p at_ pad width), .agg (symC z s1 s2 s3 s4 s5 s6 s7 s8)] w (BPost (refB z at_ pad s1 s2 s3 s4 s8 (T l0) (T l1) (T l3) (T l4)) w) := by
  have HP1 : Hid (∀ W, Below w.heap.size w W → Calls Try.prog 10 #[.agg (patP w0 w1 hn w3 w4 p at_ pad width), .agg (symC z s1 s2 s3 s4 s5 s6 s7 s8), .bool false] W fun e w' => e = .returned (.tuple #[.string (T l0), .string (T l1)]) ∧ Below W.heap.size W w') := Lib.hid fun W hb =>
    refPair_calls z s1 s2 s3 s4 s5 s6 s7 s8 w0 w1 w3 w4 hn p at_ pad width l0 l1 l3 l4 false T W (h0.below hb) (h1.below hb) (h3.below hb) (h4.below hb) HT
  have HP2 : Hid (∀ W, Below w.heap.size w W → Calls Try.prog 10 #[.agg (patP w0 w1 hn w3 w4 p at_ pad width), .agg (symC z s1 s2 s3 s4 s5 s6 s7 s8), .bool true] W fun e w' => e = .returned (.tuple #[.string (T l3), .string (T l4)]) ∧ Below W.heap.size W w') := Lib.hid fun W hb =>
    refPair_calls z s1 s2 s3 s4 s5 s6 s7 s8 w0 w1 w3 w4 hn p at_ pad width l0 l1 l3 l4 true T W (h0.below hb) (h1.below hb) (h3.below hb) (h4.below hb) HT
  obtain ⟨a, hea⟩ : ∃ a, a = T l0 := ⟨_, rfl⟩
  obtain ⟨b, heb⟩ : ∃ b, b = T l1 := ⟨_, rfl⟩
  obtain ⟨c, hec⟩ : ∃ c, c = T l3 := ⟨_, rfl⟩
  obtain ⟨d, hed⟩ : ∃ d, d = T l4 := ⟨_, rfl⟩
  rw [← hea, ← heb] at HP1
  rw [← hec, ← hed] at HP2
  rw [← hea, ← heb, ← hec, ← hed]
  rw [← hea, ← heb, ← hec, ← hed] at hx
  obtain ⟨r, hr⟩ : ∃ r, r = refB z at_ pad s1 s2 s3 s4 s8 a b c d := ⟨_, rfl⟩
  rw [← hr]
  have HALL := Lib.hid (And.intro hr (And.intro hx (And.intro hz hpad)))
  clear h0 h1 h3 h4 HT hea heb hec hed hx hz hpad hr
  refine calls_of_wp (c := Cr 0) Try.func12 (by kernel_rfl) ?_
  simp only [Try.ntmps12, List.size_toArray, List.length_cons, List.length_nil, Nat.reduceAdd, Nat.reduceSub, Array.replicate_succ, Array.replicate_zero, List.push_toArray, List.append_toArray, List.nil_append, List.cons_append]
  rw [show Cr 0 = .seq (stmtOf 0 crBody) (.seq (stmtOf 1 crBody) (.seq (stmtOf 2 crBody) (Cr 3))) from by kernel_rfl]
  have hz0 : stmtOf 0 crBody = stmtOf 0 crBody := rfl
  conv at hz0 => rhs; whnf
  rw [hz0]; clear hz0
  have hz1 : stmtOf 1 crBody = stmtOf 1 crBody := rfl
  conv at hz1 => rhs; whnf
  rw [hz1]; clear hz1
  have hz2 : stmtOf 2 crBody = stmtOf 2 crBody := rfl
  conv at hz2 => rhs; whnf
  rw [hz2]; clear hz2
  unfold patP symC
  go_wp2_with (first
    | ((with_reducible refine gate_dst (N := 2) rfl ?_); refine box_event ?hg (N := 2) ?hd (cs := patP w0 w1 hn w3 w4 p at_ pad width) (t := 26) ?hr ?_; (case hd => rfl); (case hg => rfl); (case hr => first | (go_simp; done) | (go_simp; rfl)); intro gb hg w5 hbox hb; obtain ⟨gp, hgp⟩ : ∃ gp, gp = gb := ⟨_, rfl⟩; rw [← hgp] at hbox ⊢; have HB5 := Lib.hid hb; have HX5 := Lib.hid hbox; clear hb hbox hg hgp)
    | ((with_reducible refine gate_dst (N := 3) rfl ?_); refine box_event ?hg (N := 3) ?hd (cs := symC z s1 s2 s3 s4 s5 s6 s7 s8) (t := 23) ?hr ?_; (case hd => rfl); (case hg => rfl); (case hr => first | (go_simp; done) | (go_simp; rfl)); intro gb hg w6 hbox hb; obtain ⟨gs, hgs⟩ : ∃ gs, gs = gb := ⟨_, rfl⟩; rw [← hgs] at hbox ⊢; have HB6 := Lib.hid (below_step HB5.out hb); have HX6 := Lib.hid (heap_keeps hb HX5.out); have HY6 := Lib.hid hbox; clear hb hbox hg hgs)
    | ((with_reducible refine gate_dst (N := 14) rfl ?_); refine wpList_load_mid rfl 26 (.tmp 2) rfl gp 0 rfl (patP w0 w1 hn w3 w4 p at_ pad width).toList _ (row_range HX6.out) Try.underlying26 rfl (by kernel_rfl) ?_; rw [arr_back3])
    | ((with_reducible refine gate_dst (N := 15) rfl ?_); refine wpList_load_mid rfl 23 (.tmp 3) rfl gs 0 rfl (symC z s1 s2 s3 s4 s5 s6 s7 s8).toList _ (row_range HY6.out) Try.underlying23 rfl (by kernel_rfl) ?_; rw [arr_back3])
    | (go_at_call 10; (with_reducible refine (HP1.out _ HB6.out).mono ?_); rintro e1 W7 ⟨rfl, b1⟩; have HB7 := Lib.hid (below_step HB6.out b1); have HX7 := Lib.hid (heap_keeps b1 HX6.out); have HY7 := Lib.hid (heap_keeps b1 HY6.out); clear b1)
    | ((with_reducible refine gate_dst (N := 20) rfl ?_); refine wpList_load_mid rfl 26 (.tmp 2) rfl gp 0 rfl (patP w0 w1 hn w3 w4 p at_ pad width).toList _ (row_range HX7.out) Try.underlying26 rfl (by kernel_rfl) ?_; rw [arr_back3])
    | ((with_reducible refine gate_dst (N := 21) rfl ?_); refine wpList_load_mid rfl 23 (.tmp 3) rfl gs 0 rfl (symC z s1 s2 s3 s4 s5 s6 s7 s8).toList _ (row_range HY7.out) Try.underlying23 rfl (by kernel_rfl) ?_; rw [arr_back3])
    | (go_at_call 10; (with_reducible refine (HP2.out _ HB7.out).mono ?_); rintro e1 W8 ⟨rfl, b1⟩; have HB8 := Lib.hid (below_step HB7.out b1); have HX8 := Lib.hid (heap_keeps b1 HX7.out); have HY8 := Lib.hid (heap_keeps b1 HY7.out); clear b1))
  obtain ⟨hr, hx, hz, hpad⟩ := HALL.out
  exact cr3 w W8 z s1 s2 s3 s4 s8 a b c d at_ pad gs gp r hr HB8.out (fun W' hW => cv_of (heap_keeps hW HY8.out) (heap_keeps hW HX8.out)) hx hz hpad
end Go.Proofs.Ytkgdpgoianimjaa.Print
