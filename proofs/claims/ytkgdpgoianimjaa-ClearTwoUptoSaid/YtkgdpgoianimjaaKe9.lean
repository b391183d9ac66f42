/- ClearTwo: the law's own walk. -/
import Derived.Test.YtkgdpgoianimjaaKe8
namespace Go.Proofs.Ytkgdpgoianimjaa.Print
variable {v0 v1 v2 v3 v4 v5 v6 v7 v8 v9 v10 v11 v12 v13 v14 v15 v16 v17 v18 v19 v20 v21 v22 v23 v24 v25 v26 v27 v28 v29 v30 v31 v32 v33 v34 v35 v36 v37 v38 v39 v40 v41 v42 v43 v44 v45 v46 v47 v48 v49 v50 v51 v52 v53 v54 v55 v56 v57 v58 v59 v60 v61 v62 v63 v64 v65 v66 v67 v68 v69 v70 v71 v72 v73 v74 v75 v76 v77 v78 v79 v80 v81 v82 v83 v84 v85 v86 v87 v88 v89 v90 v91 v92 v93 v94 v95 v96 v97 v98 v99 v100 v101 v102 v103 v104 v105 v106 v107 v108 v109 v110 v111 v112 v113 v114 v115 v116 v117 v118 : Value}
open Go.RowKit Go.Lib Go.Proofs.Ytkgdpgoianimjaa.Utf Go.Proofs.Ytkgdpgoianimjaa.Pure Go.Proofs.YtkgdpgoianimjaaW.PrintWords Go.Proofs.YtkgdpgoianimjaaW.PrintLast Go.Proofs.YtkgdpgoianimjaaW.PrintMore
set_option linter.unusedVariables false
set_option linter.unusedSimpArgs false
theorem clear_true {z at_ pad : Int} {s1 s2 s3 s4 s8 a b c d : ByteArray} (hx : Cx s1 s2 s3 s4 s8 a b c d) (h : clearB z at_ pad s1 s2 s3 s4 s8 a b c d = true) :
    (∀ t, t ∈ [a, b, c, d, s1, s2, s3, s4, s8] → ∀ r ∈ rn t, strangeB z at_ pad r = false) ∧ ((at_ != 0) && isZ z pad) = false ∧ ((a.toList == c.toList) && (b.toList == d.toList)) = false := by
  unfold clearB at h
  split at h
  · cases h
  rename_i h1
  unfold clearR at h
  split at h
  · cases h
  rename_i h2
  split at h
  · cases h
  rename_i h3
  refine ⟨fun t ht r hr => ?_, by simpa using h2, ?_⟩
  · have h4 : dirtyB z at_ pad t = false := by
      cases hd : dirtyB z at_ pad t with
      | false => rfl
      | true => exact absurd (List.any_eq_true.2 ⟨t, ht, hd⟩) h1
    rw [dirty_any (hx.ok t ht).1] at h4
    cases hs : strangeB z at_ pad r with
    | false => rfl
    | true => rw [List.any_eq_true.2 ⟨r, hr, hs⟩] at h4; cases h4
  · cases he : ((a.toList == c.toList) && (b.toList == d.toList)) with
    | false => rfl
    | true => exact absurd (by rw [he, Bool.true_or]) h3
theorem has_no {t : ByteArray} {x : Int} (h : ∀ r ∈ rn t, r ≠ x) : hasV t [x] = false := by
  unfold hasV
  cases hs : (rn t).any (fun r => [x].any (fun y => r == y)) with
  | false => rfl
  | true =>
    obtain ⟨r, hr, he⟩ := List.any_eq_true.1 hs
    simp only [List.any_cons, List.any_nil, Bool.or_false, beq_iff_eq] at he
    exact absurd he (h r hr)
theorem strange_no {z at_ pad r : Int} (h : strangeB z at_ pad r = false) : isZ z r = false ∧ (at_ ≠ 0 → r ≠ pad) := by
  unfold strangeB at h
  rw [Bool.or_eq_false_iff, Bool.and_eq_false_iff] at h
  refine ⟨h.1, fun ha hr => ?_⟩
  rcases h.2 with h2 | h2
  · exact absurd (bne_iff_ne.2 ha) (by rw [h2]; simp)
  · exact absurd (beq_iff_eq.2 hr) (by rw [h2]; simp)
theorem isZ_in {z : Int} (hz : goodZ z = true) {k : Nat} (hk : k < 10) : isZ z (z + k) = true := by
  unfold isZ
  rw [hz, Bool.true_and]
  exact decide_eq_true (by omega)
def cat4 (a b c d : ByteArray) : ByteArray := ((a ++ b) ++ c) ++ d
def cat7 (a b c d s1 s2 s8 : ByteArray) : ByteArray := ((cat4 a b c d ++ s1) ++ s2) ++ s8
theorem rn_cat4 {a b c d : ByteArray} (ha : okS a) (hb : okS b) (hc : okS c) (hd : okS d) : okS (cat4 a b c d) ∧ rn (cat4 a b c d) = ((rn a ++ rn b) ++ rn c) ++ rn d := by
  obtain ⟨o1, e1⟩ := rn_append ha hb
  obtain ⟨o2, e2⟩ := rn_append o1 hc
  obtain ⟨o3, e3⟩ := rn_append o2 hd
  exact ⟨o3, by rw [show cat4 a b c d = ((a ++ b) ++ c) ++ d from rfl, e3, e2, e1]⟩
theorem rn_cat7 {a b c d s1 s2 s8 : ByteArray} (ha : okS a) (hb : okS b) (hc : okS c) (hd : okS d) (h1 : okS s1) (h2 : okS s2) (h8 : okS s8) : okS (cat7 a b c d s1 s2 s8) ∧ rn (cat7 a b c d s1 s2 s8) = ((rn (cat4 a b c d) ++ rn s1) ++ rn s2) ++ rn s8 := by
  obtain ⟨o0, _⟩ := rn_cat4 ha hb hc hd
  obtain ⟨o1, e1⟩ := rn_append o0 h1
  obtain ⟨o2, e2⟩ := rn_append o1 h2
  obtain ⟨o3, e3⟩ := rn_append o2 h8
  exact ⟨o3, by rw [show cat7 a b c d s1 s2 s8 = ((cat4 a b c d ++ s1) ++ s2) ++ s8 from rfl, e3, e2, e1]⟩
/-- What Clear says of the texts of a pattern. -/
structure Tf (z at_ pad : Int) (s1 s2 s8 a b c d : ByteArray) : Prop where
  dig : ∀ k : Nat, k < 10 → hasV (cat7 a b c d s1 s2 s8) [z + (k : Int)] = false
  pd : ∀ k : Nat, k < 10 → 0 < at_ → (pad == z + (k : Int)) = false
  ne : ((a.toList == c.toList) && (b.toList == d.toList)) = false
  no : at_ ≠ 0 → hasV (cat4 a b c d) [pad] = false
  ok4 : okS (cat4 a b c d)
  ok7 : okS (cat7 a b c d s1 s2 s8)
  za : a.size ≤ 1600
  zb : b.size ≤ 1600
  zc : c.size ≤ 1600
  zd : d.size ≤ 1600
  z1 : s1.size ≤ 16
  z2 : s2.size ≤ 16
  z8 : s8.size ≤ 16
theorem tf_of {z at_ pad : Int} {s1 s2 s3 s4 s8 a b c d : ByteArray} (hz : goodZ z = true) (hx : Cx s1 s2 s3 s4 s8 a b c d) (h : clearB z at_ pad s1 s2 s3 s4 s8 a b c d = true) (za : a.size ≤ 1600) (zb : b.size ≤ 1600) (zc : c.size ≤ 1600) (zd : d.size ≤ 1600) (z1 : s1.size ≤ 16) (z2 : s2.size ≤ 16) (z8 : s8.size ≤ 16) : Tf z at_ pad s1 s2 s8 a b c d := by
  obtain ⟨h1, h2, h3⟩ := clear_true hx h
  have oa := (hx.ok a (by simp)).1
  have ob := (hx.ok b (by simp)).1
  have oc := (hx.ok c (by simp)).1
  have od := (hx.ok d (by simp)).1
  have o1 := (hx.ok s1 (by simp)).1
  have o2 := (hx.ok s2 (by simp)).1
  have o8 := (hx.ok s8 (by simp)).1
  obtain ⟨k4, e4⟩ := rn_cat4 oa ob oc od
  obtain ⟨k7, e7⟩ := rn_cat7 oa ob oc od o1 o2 o8
  have m4 : ∀ r ∈ rn (cat4 a b c d), strangeB z at_ pad r = false := fun r hr => by
    rw [e4] at hr
    simp only [List.mem_append] at hr
    rcases hr with ((hr | hr) | hr) | hr
    · exact h1 a (by simp) r hr
    · exact h1 b (by simp) r hr
    · exact h1 c (by simp) r hr
    · exact h1 d (by simp) r hr
  have m7 : ∀ r ∈ rn (cat7 a b c d s1 s2 s8), strangeB z at_ pad r = false := fun r hr => by
    rw [e7] at hr
    simp only [List.mem_append] at hr
    rcases hr with ((hr | hr) | hr) | hr
    · exact m4 r hr
    · exact h1 s1 (by simp) r hr
    · exact h1 s2 (by simp) r hr
    · exact h1 s8 (by simp) r hr
  refine ⟨fun k hk => has_no fun r hr he => ?_, fun k hk ha => ?_, h3, fun ha => has_no fun r hr => (strange_no (m4 r hr)).2 ha, k4, k7, za, zb, zc, zd, z1, z2, z8⟩
  · have := (strange_no (m7 r hr)).1
    rw [he, isZ_in hz hk] at this
    cases this
  · refine beq_eq_false_iff_ne.2 fun he => ?_
    rw [he, isZ_in hz hk, Bool.and_true] at h2
    exact absurd (bne_iff_ne.2 (by omega : at_ ≠ 0)) (by rw [h2]; simp)
noncomputable def twBody : Code := (Try.f4.body).getD .skip
noncomputable def Tw (k : Nat) : Code := restOf k twBody
set_option maxHeartbeats 16000000 in
set_option maxRecDepth 1000000 in
theorem tw6 (w W : World) (z at_ pad : Int) (s1 s2 s8 a b c d : ByteArray) (gs pb : Nat) (hb : Below w.heap.size w W) (hf : Tf z at_ pad s1 s2 s8 a b c d)
    (hcp : ∀ W', Below W.heap.size W W' → W'.cell? ⟨pb, 17, none⟩ = some (.int .i64 at_) ∧ W'.cell? ⟨pb, 18, none⟩ = some (.int .i32 pad)) :
    Code.wp Try.prog (Tw 6) (bodyPost Try.prog Try.f4 (BPost true w)) ⟨#[v0,v1,v2, .pointer (some ⟨gs, 0, none⟩),v4, .pointer (some ⟨pb, 0, none⟩),v6, .string a, .string b, .string c, .string d,v11,v12,v13,v14,v15,v16,v17,v18,v19,v20,v21,v22,v23,v24,v25,v26,v27,v28,v29,v30,v31,v32,v33,v34,v35,v36,v37,v38,v39,v40,v41,v42,v43,v44,v45,v46,v47,v48,v49,v50,v51,v52,v53,v54,v55,v56,v57,v58,v59,v60,v61,v62,v63,v64,v65,v66,v67,v68,v69,v70,v71,v72,v73,v74,v75,v76,v77,v78,v79,v80,v81,v82,v83,v84,v85,v86,v87,v88,v89,v90,v91,v92,v93,v94,v95,v96,v97,v98,v99,v100,v101,v102,v103,v104,v105,v106,v107,v108,v109,v110,v111,v112,v113,v114,v115,v116,v117,v118], []⟩ W := by
  have HB := Lib.hid hb
  have HCP := Lib.hid hcp
  have za := hf.za
  have zb := hf.zb
  have zc := hf.zc
  have zd := hf.zd
  have hne := hf.ne
  have HF := Lib.hid hf
  clear hb hcp hf
  rw [show Tw 6 = .seq (stmtOf 6 twBody) (Tw 7) from by kernel_rfl]
  have hz6 : stmtOf 6 twBody = stmtOf 6 twBody := rfl
  conv at hz6 => rhs; whnf
  rw [hz6]; clear hz6
  rw [show Tw 7 = Code.ret from by kernel_rfl]
  by_cases hat : at_ = 0
  · have t0 : (at_ == 0) = true := beq_iff_eq.2 hat
    clear hat
    cases hac : (a.toList == c.toList) with
    | false =>
      go_wp2_with (first
        | (go_at_call 8; (with_reducible refine (answers_calls _).mono ?_); rintro e1 W1 ⟨rfl, b1⟩; have HB1 := Lib.hid b1; obtain ⟨p17, p18⟩ := HCP.out W1 b1; clear b1))
      go_ret
      exact ⟨rfl, below_step HB.out HB1.out⟩
    | true =>
      rw [hac, Bool.true_and] at hne
      go_wp2_with (first
        | (go_at_call 8; (with_reducible refine (answers_calls _).mono ?_); rintro e1 W1 ⟨rfl, b1⟩; have HB1 := Lib.hid b1; obtain ⟨p17, p18⟩ := HCP.out W1 b1; clear b1))
      go_ret
      exact ⟨rfl, below_step HB.out HB1.out⟩
  · have t0 : (at_ == 0) = false := beq_eq_false_iff_ne.2 hat
    have HH : Hid (∀ W' : World, Calls Try.prog 13 #[.string (a ++ b ++ c ++ d), .slice (some ⟨W'.heap.size, 0, none⟩) 1 1] (W'.alloc (.cells #[.int .i32 pad] 21 (0, 0))) fun e w' => e = .returned (.bool false) ∧ Below W'.heap.size W' w') := Lib.hid fun W' => by
      have := has_calls (cat4 a b c d) [pad] HF.out.ok4 (by unfold cat4; simp only [ByteArray.size_append]; omega) (by simp) _ 1 _ (C_one W' pad) (by simp)
      rw [HF.out.no hat] at this
      exact this.mono fun e w' h => ⟨h.1, below_step (below_alloc (Below.refl _ _) _) h.2⟩
    clear hat
    cases hac : (a.toList == c.toList) with
    | false =>
      go_wp2_with (first
        | (go_at_call 8; (with_reducible refine (answers_calls _).mono ?_); rintro e1 W1 ⟨rfl, b1⟩; have HB1 := Lib.hid b1; obtain ⟨p17, p18⟩ := HCP.out W1 b1; clear b1)
        | (go_at_call 13; (with_reducible refine (HH.out W1).mono ?_); rintro e1 W3 ⟨rfl, b3⟩; have HB3 := Lib.hid (below_step HB1.out b3); clear b3))
      go_ret
      exact ⟨rfl, below_step HB.out HB3.out⟩
    | true =>
      rw [hac, Bool.true_and] at hne
      go_wp2_with (first
        | (go_at_call 8; (with_reducible refine (answers_calls _).mono ?_); rintro e1 W1 ⟨rfl, b1⟩; have HB1 := Lib.hid b1; obtain ⟨p17, p18⟩ := HCP.out W1 b1; clear b1)
        | (go_at_call 13; (with_reducible refine (HH.out W1).mono ?_); rintro e1 W3 ⟨rfl, b3⟩; have HB3 := Lib.hid (below_step HB1.out b3); clear b3))
      go_ret
      exact ⟨rfl, below_step HB.out HB3.out⟩
set_option maxHeartbeats 16000000 in
set_option maxRecDepth 1000000 in
theorem tw5 (w W : World) (z at_ pad : Int) (s1 s2 s3 s4 s8 a b c d : ByteArray) (gs pb : Nat) (hb : Below w.heap.size w W) (hf : Tf z at_ pad s1 s2 s8 a b c d) (hz : 0 ≤ z ∧ z ≤ 1114102)
    (hcv : ∀ W', Below W.heap.size W W' → Cv W' gs pb z at_ pad s1 s2 s3 s4 s8) :
    Code.wp Try.prog (Tw 5) (bodyPost Try.prog Try.f4 (BPost true w)) ⟨#[v0,v1,v2, .pointer (some ⟨gs, 0, none⟩),v4, .pointer (some ⟨pb, 0, none⟩),v6, .string a, .string b, .string c, .string d,v11,v12,v13,v14,v15,v16,v17,v18,v19,v20,v21,v22,v23,v24,v25,v26,v27,v28,v29,v30,v31,v32,v33,v34,v35,v36,v37,v38,v39,v40,v41,v42,v43,v44,v45,v46,v47,v48,v49,v50,v51,v52,v53,v54,v55,v56,v57,v58,v59,v60,v61,v62,v63,v64,v65,v66,v67,v68,v69,v70,v71,v72,v73,v74,v75,v76,v77,v78,v79,v80,v81,v82,v83,v84,v85,v86,v87,v88,v89,v90,v91,v92,v93,v94,v95,v96,v97,v98,v99,v100,v101,v102,v103,v104,v105,v106,v107,v108,v109,v110,v111,v112,v113,v114,v115,v116,v117,v118], []⟩ W := by
  have HB := Lib.hid hb
  have HCV := Lib.hid hcv
  have HF := Lib.hid hf
  have za := hf.za
  have zb := hf.zb
  have zc := hf.zc
  have zd := hf.zd
  have z1 := hf.z1
  have z2 := hf.z2
  have z8 := hf.z8
  obtain ⟨hz0, hz1⟩ := hz
  clear hb hcv hf
  rw [show Tw 5 = .seq (stmtOf 5 twBody) (Tw 6) from by kernel_rfl]
  have hz5 : stmtOf 5 twBody = stmtOf 5 twBody := rfl
  conv at hz5 => rhs; whnf
  rw [hz5]; clear hz5
  go_wp2
  go_loopw [11] (fun v11 wx => ∃ k : Nat, v11 = .int .i32 (k : Int) ∧ k ≤ 10 ∧ Below W.heap.size W wx) (fun v11 wx => 10 - (RowKit.intOf v11).toNat)
  case atStart => exact ⟨0, rfl, by omega, Below.refl _ _⟩
  case round =>
    obtain ⟨k, rfl, hk, hb1⟩ := hrel
    have HB1 := Lib.hid hb1
    clear hb1
    by_cases hi : k < 10
    · obtain ⟨f0, f1, f2, f3, f4, f8, p17, p18⟩ := HCV.out wr HB1.out
      have hw1 : IntKind.i32.wrap (z + (k : Int)) = z + (k : Int) := by rw [IntKind.wrap_i32]; omega
      have hki : (k : Int) < 10 := by omega
      have HH : Hid (∀ W' : World, Calls Try.prog 13 #[.string (a ++ b ++ c ++ d ++ s1 ++ s2 ++ s8), .slice (some ⟨W'.heap.size, 0, none⟩) 1 1] (W'.alloc (.cells #[.int .i32 (z + (k : Int))] 21 (0, 0))) fun e w' => e = .returned (.bool false) ∧ Below W'.heap.size W' w') := Lib.hid fun W' => by
        have := has_calls (cat7 a b c d s1 s2 s8) [z + (k : Int)] HF.out.ok7 (by unfold cat7 cat4; simp only [ByteArray.size_append]; omega) (by simp) _ 1 _ (C_one W' (z + (k : Int))) (by simp)
        rw [HF.out.dig k hi] at this
        exact this.mono fun e w' h => ⟨h.1, below_step (below_alloc (Below.refl _ _) _) h.2⟩
      by_cases hat : 0 < at_
      · have t1 : decide (0 < at_) = true := decide_eq_true hat
        have t2 := HF.out.pd k hi hat
        clear hat
        go_wp2_with (go_at_call 13; (with_reducible refine (HH.out _).mono ?_); rintro e1 W3 ⟨rfl, b3⟩; have HB3 := Lib.hid (below_step HB1.out b3); obtain ⟨f0, f1, f2, f3, f4, f8, p17, p18⟩ := HCV.out W3 HB3.out; clear b3)
        go_roundw
        case rel => exact ⟨k + 1, by go_num, by omega, HB3.out⟩
        case measure => simp [RowKit.intOf]; omega
      · have t1 : decide (0 < at_) = false := decide_eq_false hat
        clear hat
        go_wp2_with (go_at_call 13; (with_reducible refine (HH.out _).mono ?_); rintro e1 W3 ⟨rfl, b3⟩; have HB3 := Lib.hid (below_step HB1.out b3); obtain ⟨f0, f1, f2, f3, f4, f8, p17, p18⟩ := HCV.out W3 HB3.out; clear b3)
        go_roundw
        case rel => exact ⟨k + 1, by go_num, by omega, HB3.out⟩
        case measure => simp [RowKit.intOf]; omega
    · go_wp2
      exact tw6 w wr z at_ pad s1 s2 s8 a b c d gs pb (below_step HB.out HB1.out) HF.out (fun W' h => ⟨(HCV.out W' (below_step HB1.out h)).p17, (HCV.out W' (below_step HB1.out h)).p18⟩)
end Go.Proofs.Ytkgdpgoianimjaa.Print
