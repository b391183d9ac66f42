/- ClearTwo: its walk, joined. -/
import Derived.Test.YtkgdpgoianimjaaKe9
namespace Go.Proofs.Ytkgdpgoianimjaa.Print
variable {v0 v1 v2 v3 v4 v5 v6 v7 v8 v9 v10 v11 v12 v13 v14 v15 v16 v17 v18 v19 v20 v21 v22 v23 v24 v25 v26 v27 v28 v29 v30 v31 v32 v33 v34 v35 v36 v37 v38 v39 v40 v41 v42 v43 v44 v45 v46 v47 v48 v49 v50 v51 v52 v53 v54 v55 v56 v57 v58 v59 v60 v61 v62 v63 v64 v65 v66 v67 v68 v69 v70 v71 v72 v73 v74 v75 v76 v77 v78 v79 v80 v81 v82 v83 v84 v85 v86 v87 v88 v89 v90 v91 v92 v93 v94 v95 v96 v97 v98 v99 v100 v101 v102 v103 v104 v105 v106 v107 v108 v109 v110 v111 v112 v113 v114 v115 v116 v117 v118 : Value}
open Go.RowKit Go.Lib Go.Proofs.Ytkgdpgoianimjaa.Utf Go.Proofs.Ytkgdpgoianimjaa.Pure Go.Proofs.YtkgdpgoianimjaaW.PrintWords Go.Proofs.YtkgdpgoianimjaaW.PrintLast Go.Proofs.YtkgdpgoianimjaaW.PrintMore
set_option linter.unusedVariables false
set_option linter.unusedSimpArgs false
set_option maxHeartbeats 16000000 in
set_option maxRecDepth 1000000 in
theorem tw3 (w W : World) (z : Int) (s1 s2 s3 s4 s5 s6 s7 s8 : ByteArray) (w0 w1 w3 w4 : Value) (q : PatR) (gs pb : Nat) (hb : Below w.heap.size w W) (hg : Gd z s1 s2 s3 s4 s5 s6 s7 s8) (hq : PatOk q) (hv : Pv W w0 w1 w3 w4 q) (hclr : clrT z s1 s2 s3 s4 s5 s6 s7 s8 q.at_ q.pad q = true)
    (hX : W.heap[pb]? = some (.cells (patP w0 w1 q.hasNeg w3 w4 q.num q.at_ q.pad q.width) 26 (0, 0))) (hY : W.heap[gs]? = some (.cells (symC z s1 s2 s3 s4 s5 s6 s7 s8) 23 (0, 0))) :
    Code.wp Try.prog (Tw 3) (bodyPost Try.prog Try.f4 (BPost true w)) ⟨#[v0,v1,v2, .pointer (some ⟨gs, 0, none⟩),v4, .pointer (some ⟨pb, 0, none⟩),v6,v7,v8,v9,v10,v11,v12,v13,v14,v15,v16,v17,v18,v19,v20,v21,v22,v23,v24,v25,v26,v27,v28,v29,v30,v31,v32,v33,v34,v35,v36,v37,v38,v39,v40,v41,v42,v43,v44,v45,v46,v47,v48,v49,v50,v51,v52,v53,v54,v55,v56,v57,v58,v59,v60,v61,v62,v63,v64,v65,v66,v67,v68,v69,v70,v71,v72,v73,v74,v75,v76,v77,v78,v79,v80,v81,v82,v83,v84,v85,v86,v87,v88,v89,v90,v91,v92,v93,v94,v95,v96,v97,v98,v99,v100,v101,v102,v103,v104,v105,v106,v107,v108,v109,v110,v111,v112,v113,v114,v115,v116,v117,v118], []⟩ W := by
  obtain ⟨pcs, hpcs⟩ : ∃ pcs, pcs = patP w0 w1 q.hasNeg w3 w4 q.num q.at_ q.pad q.width := ⟨_, rfl⟩
  obtain ⟨sy, hsy⟩ : ∃ sy, sy = symC z s1 s2 s3 s4 s5 s6 s7 s8 := ⟨_, rfl⟩
  have hcx := hg.cx hq
  have hTf : Tf z q.at_ q.pad s1 s2 s8 (TT s3 s4 s5 s6 s7 q.pre) (TT s3 s4 s5 s6 s7 q.suf) (TT s3 s4 s5 s6 s7 q.npre) (TT s3 s4 s5 s6 s7 q.nsuf) :=
    tf_of hg.z hcx hclr (TT_size hg.s16 _ hq.l0) (TT_size hg.s16 _ hq.l1) (TT_size hg.s16 _ hq.l3) (TT_size hg.s16 _ hq.l4) (hg.one (by simp)).2.2 (hg.one (by simp)).2.2 (hg.one (by simp)).2.2
  have HCVV : Hid (∀ W', Below W.heap.size W W' → Cv W' gs pb z q.at_ q.pad s1 s2 s3 s4 s8) := Lib.hid fun W' h => cv_of (heap_keeps h hY) (heap_keeps h hX)
  obtain ⟨a, ha⟩ : ∃ a, a = TT s3 s4 s5 s6 s7 q.pre := ⟨_, rfl⟩
  obtain ⟨b, hbb⟩ : ∃ b, b = TT s3 s4 s5 s6 s7 q.suf := ⟨_, rfl⟩
  obtain ⟨c, hc⟩ : ∃ c, c = TT s3 s4 s5 s6 s7 q.npre := ⟨_, rfl⟩
  obtain ⟨d, hd⟩ : ∃ d, d = TT s3 s4 s5 s6 s7 q.nsuf := ⟨_, rfl⟩
  rw [← ha, ← hbb, ← hc, ← hd] at hTf
  have HTF := Lib.hid hTf
  have HZR := Lib.hid hg.zr
  have HP1 : Hid (∀ W', Below W.heap.size W W' → Calls Try.prog 9 #[.agg pcs, .agg sy, .bool false] W' fun e w' => e = .returned (.tuple #[.string a, .string b]) ∧ Below W'.heap.size W' w') := Lib.hid fun W' h => by
    have := pair_Q (z := z) (s1 := s1) (s2 := s2) (s8 := s8) hg.s16 w0 w1 w3 w4 hq q.hasNeg q.num q.at_ q.pad q.width false W' (hv.below h)
    simp only [Bool.false_eq_true, if_false] at this
    rw [hpcs, hsy, ha, hbb]; exact this
  have HP2 : Hid (∀ W', Below W.heap.size W W' → Calls Try.prog 9 #[.agg pcs, .agg sy, .bool true] W' fun e w' => e = .returned (.tuple #[.string c, .string d]) ∧ Below W'.heap.size W' w') := Lib.hid fun W' h => by
    have := pair_Q (z := z) (s1 := s1) (s2 := s2) (s8 := s8) hg.s16 w0 w1 w3 w4 hq q.hasNeg q.num q.at_ q.pad q.width true W' (hv.below h)
    simp only [if_true] at this
    rw [hpcs, hsy, hc, hd]; exact this
  have HZ : Hid (pcs.size = 20) := Lib.hid (by rw [hpcs]; rfl)
  have HZ9 : Hid (sy.size = 9) := Lib.hid (by rw [hsy]; rfl)
  have HX : Hid (W.heap[pb]? = some (.cells pcs 26 (0, 0))) := Lib.hid (by rw [hpcs]; exact hX)
  have HY : Hid (W.heap[gs]? = some (.cells sy 23 (0, 0))) := Lib.hid (by rw [hsy]; exact hY)
  have HB := Lib.hid hb
  clear hb hg hq hv hX hY hpcs hsy ha hbb hc hd hTf hcx hclr
  rw [show Tw 3 = .seq (stmtOf 3 twBody) (.seq (stmtOf 4 twBody) (Tw 5)) from by kernel_rfl]
  have hz3 : stmtOf 3 twBody = stmtOf 3 twBody := rfl
  conv at hz3 => rhs; whnf
  rw [hz3]; clear hz3
  have hz4 : stmtOf 4 twBody = stmtOf 4 twBody := rfl
  conv at hz4 => rhs; whnf
  rw [hz4]; clear hz4
  go_wp2_with (first
    | ((with_reducible refine gate_dst (N := 38) rfl ?_); refine wpList_load_mid rfl 26 (.tmp 5) rfl pb 0 rfl pcs.toList _ (row_range HX.out) Try.underlying26 rfl (by rw [Array.length_toList, HZ.out]; kernel_rfl) ?_; rw [arr_back3])
    | ((with_reducible refine gate_dst (N := 39) rfl ?_); refine wpList_load_mid rfl 23 (.tmp 3) rfl gs 0 rfl sy.toList _ (row_range HY.out) Try.underlying23 rfl (by rw [Array.length_toList, HZ9.out]; kernel_rfl) ?_; rw [arr_back3])
    | (go_at_call 9; (with_reducible refine (HP1.out _ (Below.refl _ _)).mono ?_); rintro e1 W1 ⟨rfl, b1⟩; have HB1 := Lib.hid b1; clear b1)
    | ((with_reducible refine gate_dst (N := 44) rfl ?_); refine wpList_load_mid rfl 26 (.tmp 5) rfl pb 0 rfl pcs.toList _ (row_range (heap_keeps HB1.out HX.out)) Try.underlying26 rfl (by rw [Array.length_toList, HZ.out]; kernel_rfl) ?_; rw [arr_back3])
    | ((with_reducible refine gate_dst (N := 45) rfl ?_); refine wpList_load_mid rfl 23 (.tmp 3) rfl gs 0 rfl sy.toList _ (row_range (heap_keeps HB1.out HY.out)) Try.underlying23 rfl (by rw [Array.length_toList, HZ9.out]; kernel_rfl) ?_; rw [arr_back3])
    | (go_at_call 9; (with_reducible refine (HP2.out _ HB1.out).mono ?_); rintro e1 W2 ⟨rfl, b1⟩; have HB2 := Lib.hid (below_step HB1.out b1); clear b1))
  exact tw5 w W2 z q.at_ q.pad s1 s2 s3 s4 s8 a b c d gs pb (below_step HB.out HB2.out) HTF.out HZR.out (fun W' h => HCVV.out W' (below_step HB2.out h))
set_option maxHeartbeats 16000000 in
set_option maxRecDepth 1000000 in
theorem tw2 (w W : World) (t : ByteArray) (z : Int) (s1 s2 s3 s4 s5 s6 s7 s8 : ByteArray) (pcs : Array Value) (E ea : Int) (r : Option PatR) (gs pb fb : Nat) (hb : Below w.heap.size w W) (hs : smallS z s1 s2 s3 s4 s5 s6 s7 s8) (ht : t.size ≤ 1048576) (hr : ∀ q, r = some q → PatOk q) (ho : COv r pcs E W)
    (hX : W.heap[pb]? = some (.cells pcs 26 (0, 0))) (hF : W.heap[fb]? = some (.cells #[.int .i64 E, .int .i64 ea] 29 (0, 0))) (hY : W.heap[gs]? = some (.cells (symC z s1 s2 s3 s4 s5 s6 s7 s8) 23 (0, 0))) :
    Code.wp Try.prog (Tw 2) (bodyPost Try.prog Try.f4 (BPost true w)) ⟨#[.string t,v1,v2, .pointer (some ⟨gs, 0, none⟩),v4, .pointer (some ⟨pb, 0, none⟩), .pointer (some ⟨fb, 0, none⟩),v7,v8,v9,v10,v11,v12,v13,v14,v15,v16,v17,v18,v19,v20,v21,v22,v23,v24,v25,v26,v27,v28,v29,v30,v31,v32,v33,v34,v35,v36,v37,v38,v39,v40,v41,v42,v43,v44,v45,v46,v47,v48,v49,v50,v51,v52,v53,v54,v55,v56,v57,v58,v59,v60,v61,v62,v63,v64,v65,v66,v67,v68,v69,v70,v71,v72,v73,v74,v75,v76,v77,v78,v79,v80,v81,v82,v83,v84,v85,v86,v87,v88,v89,v90,v91,v92,v93,v94,v95,v96,v97,v98,v99,v100,v101,v102,v103,v104,v105,v106,v107,v108,v109,v110,v111,v112,v113,v114,v115,v116,v117,v118], []⟩ W := by
  have e0 : W.cell? ⟨fb, 0, none⟩ = some (.int .i64 E) := (blk_cell hF 0).trans rfl
  have HB := Lib.hid hb
  cases r with
  | none =>
    have t1 : (E != 0) = true := bne_iff_ne.2 ho
    clear hb hs hr ho hX hF hY
    rw [show Tw 2 = .seq (stmtOf 2 twBody) (Tw 3) from by kernel_rfl]
    have hz2 : stmtOf 2 twBody = stmtOf 2 twBody := rfl
    conv at hz2 => rhs; whnf
    rw [hz2]; clear hz2
    go_wp2_with (go_at_call 8; (with_reducible refine (answers_calls _).mono ?_); rintro e1 W1 ⟨rfl, b1⟩; have HB1 := Lib.hid (below_step HB.out b1); clear b1)
    go_ret
    exact ⟨rfl, HB1.out⟩
  | some q =>
    obtain ⟨hE, w0, w1, w3, w4, hp, hv⟩ := ho
    subst hE hp
    have hq := hr q rfl
    have t1 : ((0 : Int) != 0) = false := rfl
    have htl : (t.size : Int) ≤ 1048576 := by omega
    by_cases h4 : (400 : Int) < (t.size : Int)
    · have t2 : decide ((400 : Int) < (t.size : Int)) = true := decide_eq_true h4
      clear hb hs hr hv hX hF hY hq h4
      rw [show Tw 2 = .seq (stmtOf 2 twBody) (Tw 3) from by kernel_rfl]
      have hz2 : stmtOf 2 twBody = stmtOf 2 twBody := rfl
      conv at hz2 => rhs; whnf
      rw [hz2]; clear hz2
      go_wp2_with (go_at_call 8; (with_reducible refine (answers_calls _).mono ?_); rintro e1 W1 ⟨rfl, b1⟩; have HB1 := Lib.hid (below_step HB.out b1); clear b1)
      go_ret
      exact ⟨rfl, HB1.out⟩
    · have t2 : decide ((400 : Int) < (t.size : Int)) = false := decide_eq_false h4
      obtain ⟨sy, hsy⟩ : ∃ sy, sy = symC z s1 s2 s3 s4 s5 s6 s7 s8 := ⟨_, rfl⟩
      obtain ⟨G, hG⟩ : ∃ G, G = goodB z s1 s2 s3 s4 s5 s6 s7 s8 := ⟨_, rfl⟩
      have HGC : Hid (Calls Try.prog 7 #[.agg sy] W fun e w' => e = .returned (.bool G) ∧ Below W.heap.size W w') := Lib.hid (by rw [hsy, hG]; exact good_calls hs W)
      have HZ9 : Hid (sy.size = 9) := Lib.hid (by rw [hsy]; rfl)
      have HY : Hid (W.heap[gs]? = some (.cells sy 23 (0, 0))) := Lib.hid (by rw [hsy]; exact hY)
      have HALL := Lib.hid (And.intro hq (And.intro hv (And.intro hX (And.intro hY hG))))
      have HSY := Lib.hid hsy
      clear hb hs hr hv hX hF hY hq h4 hsy hG
      cases G with
      | false =>
        rw [show Tw 2 = .seq (stmtOf 2 twBody) (Tw 3) from by kernel_rfl]
        have hz2 : stmtOf 2 twBody = stmtOf 2 twBody := rfl
        conv at hz2 => rhs; whnf
        rw [hz2]; clear hz2
        go_wp2_with (first
          | ((with_reducible refine gate_dst (N := 26) rfl ?_); (try (refine gate_guard (by rfl) ?_; dsimp only)); refine wpList_load_mid rfl 23 (.tmp 3) rfl gs 0 rfl sy.toList _ (row_range HY.out) Try.underlying23 rfl (by rw [Array.length_toList, HZ9.out]; kernel_rfl) ?_; rw [arr_back3])
          | (go_at_call 7; (with_reducible refine HGC.out.mono ?_); rintro e1 W0 ⟨rfl, b1⟩; have HB0 := Lib.hid (below_step HB.out b1); clear b1)
          | (go_at_call 8; (with_reducible refine (answers_calls _).mono ?_); rintro e1 W1 ⟨rfl, b1⟩; have HB1 := Lib.hid (below_step HB0.out b1); clear b1))
        go_ret
        exact ⟨rfl, HB1.out⟩
      | true =>
        have hgd := gd_of (show goodB z s1 s2 s3 s4 s5 s6 s7 s8 = true from HALL.out.2.2.2.2.symm)
        obtain ⟨pcs, hpcs⟩ : ∃ pcs, pcs = patP w0 w1 q.hasNeg w3 w4 q.num q.at_ q.pad q.width := ⟨_, rfl⟩
        obtain ⟨B, hB⟩ : ∃ B, B = clrT z s1 s2 s3 s4 s5 s6 s7 s8 q.at_ q.pad q := ⟨_, rfl⟩
        have HCL : Hid (∀ W', Below W.heap.size W W' → Calls Try.prog 11 #[.agg pcs, .agg sy] W' (BPost B W')) := Lib.hid fun W' h => by
          rw [hpcs, hB, HSY.out]; exact clear_Q hgd.s16 w0 w1 w3 w4 HALL.out.1 q.hasNeg q.num q.at_ q.pad q.width W' (HALL.out.2.1.below h)
        have HZ : Hid (pcs.size = 20) := Lib.hid (by rw [hpcs]; rfl)
        have HX : Hid (W.heap[pb]? = some (.cells pcs 26 (0, 0))) := Lib.hid (by rw [hpcs]; exact HALL.out.2.2.1)
        have HBQ := Lib.hid hB
        clear hpcs hB hgd
        cases B with
        | false =>
          rw [show Tw 2 = .seq (stmtOf 2 twBody) (Tw 3) from by kernel_rfl]
          have hz2 : stmtOf 2 twBody = stmtOf 2 twBody := rfl
          conv at hz2 => rhs; whnf
          rw [hz2]; clear hz2
          go_wp2_with (first
            | ((with_reducible refine gate_dst (N := 26) rfl ?_); (try (refine gate_guard (by rfl) ?_; dsimp only)); refine wpList_load_mid rfl 23 (.tmp 3) rfl gs 0 rfl sy.toList _ (row_range HY.out) Try.underlying23 rfl (by rw [Array.length_toList, HZ9.out]; kernel_rfl) ?_; rw [arr_back3])
            | (go_at_call 7; (with_reducible refine HGC.out.mono ?_); rintro e1 W0 ⟨rfl, b1⟩; have HB0 := Lib.hid b1; clear b1)
            | ((with_reducible refine gate_dst (N := 31) rfl ?_); (try (refine gate_guard (by rfl) ?_; dsimp only)); refine wpList_load_mid rfl 26 (.tmp 5) rfl pb 0 rfl pcs.toList _ (row_range (heap_keeps HB0.out HX.out)) Try.underlying26 rfl (by rw [Array.length_toList, HZ.out]; kernel_rfl) ?_; rw [arr_back3])
            | ((with_reducible refine gate_dst (N := 32) rfl ?_); (try (refine gate_guard (by rfl) ?_; dsimp only)); refine wpList_load_mid rfl 23 (.tmp 3) rfl gs 0 rfl sy.toList _ (row_range (heap_keeps HB0.out HY.out)) Try.underlying23 rfl (by rw [Array.length_toList, HZ9.out]; kernel_rfl) ?_; rw [arr_back3])
            | (go_at_call 11; (with_reducible refine (HCL.out _ HB0.out).mono ?_); rintro e1 W2 ⟨rfl, b1⟩; have HB2 := Lib.hid (below_step HB0.out b1); clear b1)
            | (go_at_call 8; (with_reducible refine (answers_calls _).mono ?_); rintro e1 W1 ⟨rfl, b1⟩; have HB1 := Lib.hid (below_step HB2.out b1); clear b1))
          go_ret
          exact ⟨rfl, below_step HB.out HB1.out⟩
        | true =>
          rw [show Tw 2 = .seq (stmtOf 2 twBody) (Tw 3) from by kernel_rfl]
          have hz2 : stmtOf 2 twBody = stmtOf 2 twBody := rfl
          conv at hz2 => rhs; whnf
          rw [hz2]; clear hz2
          go_wp2_with (first
            | ((with_reducible refine gate_dst (N := 26) rfl ?_); (try (refine gate_guard (by rfl) ?_; dsimp only)); refine wpList_load_mid rfl 23 (.tmp 3) rfl gs 0 rfl sy.toList _ (row_range HY.out) Try.underlying23 rfl (by rw [Array.length_toList, HZ9.out]; kernel_rfl) ?_; rw [arr_back3])
            | (go_at_call 7; (with_reducible refine HGC.out.mono ?_); rintro e1 W0 ⟨rfl, b1⟩; have HB0 := Lib.hid b1; clear b1)
            | ((with_reducible refine gate_dst (N := 31) rfl ?_); (try (refine gate_guard (by rfl) ?_; dsimp only)); refine wpList_load_mid rfl 26 (.tmp 5) rfl pb 0 rfl pcs.toList _ (row_range (heap_keeps HB0.out HX.out)) Try.underlying26 rfl (by rw [Array.length_toList, HZ.out]; kernel_rfl) ?_; rw [arr_back3])
            | ((with_reducible refine gate_dst (N := 32) rfl ?_); (try (refine gate_guard (by rfl) ?_; dsimp only)); refine wpList_load_mid rfl 23 (.tmp 3) rfl gs 0 rfl sy.toList _ (row_range (heap_keeps HB0.out HY.out)) Try.underlying23 rfl (by rw [Array.length_toList, HZ9.out]; kernel_rfl) ?_; rw [arr_back3])
            | (go_at_call 11; (with_reducible refine (HCL.out _ HB0.out).mono ?_); rintro e1 W2 ⟨rfl, b1⟩; have HB2 := Lib.hid (below_step HB0.out b1); clear b1))
          obtain ⟨hq, hv, hX, hY, hG⟩ := HALL.out
          exact tw3 w W2 z s1 s2 s3 s4 s5 s6 s7 s8 w0 w1 w3 w4 q gs pb (below_step HB.out HB2.out) (gd_of hG.symm) hq (hv.below HB2.out) HBQ.out.symm (heap_keeps HB2.out hX) (heap_keeps HB2.out hY)
set_option maxHeartbeats 16000000 in
set_option maxRecDepth 1000000 in
theorem two_calls (t : ByteArray) (z : Int) (s1 s2 s3 s4 s5 s6 s7 s8 : ByteArray) (w : World) (ht : t.size ≤ 1048576) (hs : smallS z s1 s2 s3 s4 s5 s6 s7 s8) :
    Calls Try.prog 4 #[.string t, .agg (symC z s1 s2 s3 s4 s5 s6 s7 s8)] w (BPost true w) := by
  obtain ⟨r, hr, hcomp⟩ := compile_any t ht
  have HCOMP := Lib.hid hcomp
  have HALL := Lib.hid (And.intro ht (And.intro hs hr))
  clear hcomp ht hs hr
  refine calls_of_wp (c := Tw 0) Try.func4 (by kernel_rfl) ?_
  simp only [Try.ntmps4, List.size_toArray, List.length_cons, List.length_nil, Nat.reduceAdd, Nat.reduceSub, Array.replicate_succ, Array.replicate_zero, List.push_toArray, List.append_toArray, List.nil_append, List.cons_append]
  rw [show Tw 0 = .seq (stmtOf 0 twBody) (.seq (stmtOf 1 twBody) (Tw 2)) from by kernel_rfl]
  have hz0 : stmtOf 0 twBody = stmtOf 0 twBody := rfl
  conv at hz0 => rhs; whnf
  rw [hz0]; clear hz0
  have hz1 : stmtOf 1 twBody = stmtOf 1 twBody := rfl
  conv at hz1 => rhs; whnf
  rw [hz1]; clear hz1
  unfold symC
  go_wp2_with (first
    | ((with_reducible refine gate_dst (N := 3) rfl ?_); refine box_event ?hg (N := 3) ?hd (cs := symC z s1 s2 s3 s4 s5 s6 s7 s8) (t := 23) ?hr ?_; (case hd => rfl); (case hg => rfl); (case hr => first | (go_simp; done) | (go_simp; rfl)); intro gb hg w6 hbox hb; obtain ⟨gs, hgs⟩ : ∃ gs, gs = gb := ⟨_, rfl⟩; rw [← hgs] at hbox ⊢; have HB6 := Lib.hid hb; have HY6 := Lib.hid hbox; clear hb hbox hg hgs)
    | (go_at_call 6; (with_reducible refine (HCOMP.out _).mono ?_); rintro e W2 ⟨pcs, E, ea, rfl, c1, c2, b, ho⟩; have HZ := Lib.hid c1; have HONE := Lib.hid c2; have HO := Lib.hid ho; have HB2 := Lib.hid b; clear c1 c2 b ho)
    | ((with_reducible refine gate_store (t := 26) (p := 5) rfl ?_); refine store_any_event rfl rfl rfl W2.heap.size 0 (.agg pcs) pcs rfl rfl rfl _ _ (blk_alloc (heap_alloc_new W2 _) _) (by rw [HZ.out]; kernel_rfl) (by rw [HZ.out]; exact Nat.le_of_ble_eq_true (by kernel_rfl)) HONE.out pcs (setAll_full (by rw [HZ.out]; kernel_rfl)) ?_; intro W3 g p'; have HX3 := Lib.hid g; have HF3 := Lib.hid (p'.other (alloc2 W2 _ _) (Nat.succ_ne_self _)); have HB3 : Hid (Below W2.heap.size W2 W3) := Lib.hid (p'.below (below_alloc (below_alloc (Below.refl _ _) _) _) (Nat.le_refl _)); clear g p')
    | ((with_reducible refine gate_store (t := 29) (p := 6) rfl ?_); refine store_any_event rfl rfl rfl (W2.heap.size + 1) 0 (.agg #[.int .i64 E, .int .i64 ea]) #[.int .i64 E, .int .i64 ea] rfl rfl rfl _ _ HF3.out (by kernel_rfl) (Nat.le_of_ble_eq_true (by kernel_rfl)) (all_one2 _ _ rfl rfl) _ (set_flt _ _ _ _) ?_; intro W4 g p'; have HF4 := Lib.hid g; have HB4 : Hid (Below W2.heap.size W2 W4) := Lib.hid (p'.below HB3.out (Nat.le_succ _)); have HX4 := Lib.hid (p'.other HX3.out (Nat.succ_ne_self _).symm); clear g p'))
  obtain ⟨ht, hs, hr⟩ := HALL.out
  exact tw2 w W4 t z s1 s2 s3 s4 s5 s6 s7 s8 pcs E ea r gs W2.heap.size (W2.heap.size + 1) (below_step HB6.out (below_step HB2.out HB4.out)) hs ht hr (HO.out.below HB4.out) HX4.out HF4.out (heap_keeps (below_step HB2.out HB4.out) HY6.out)
/-! ### the statement -/
def figureheadlaw21_ClearTwo.f (a0 : ByteArray) (a1_0 : Int) (a1_1 a1_2 a1_3 a1_4 a1_5 a1_6 a1_7 a1_8 : ByteArray) : Option Bool := if a0.size ≤ 1048576 ∧ smallS a1_0 a1_1 a1_2 a1_3 a1_4 a1_5 a1_6 a1_7 a1_8 then some true else none
theorem figureheadlaw21_ClearTwo.calls (a0 : ByteArray) (a1_0 : Int) (a1_1 a1_2 a1_3 a1_4 a1_5 a1_6 a1_7 a1_8 : ByteArray) (r : Bool) (w : World) (h : figureheadlaw21_ClearTwo.f a0 a1_0 a1_1 a1_2 a1_3 a1_4 a1_5 a1_6 a1_7 a1_8 = some r) :
    Calls Try.prog 4 #[.string a0, .agg #[.int .i32 a1_0, .string a1_1, .string a1_2, .string a1_3, .string a1_4, .string a1_5, .string a1_6, .string a1_7, .string a1_8]] w fun e w' => e = .returned (.bool r) ∧ Below w.heap.size w w' := by
  unfold figureheadlaw21_ClearTwo.f at h
  split at h
  · rename_i hh
    obtain rfl := Option.some.inj h
    exact two_calls a0 a1_0 a1_1 a1_2 a1_3 a1_4 a1_5 a1_6 a1_7 a1_8 w hh.1 hh.2
  · cases h
/-- The one pure statement of ClearTwo. -/
def figureheadlaw21_ClearTwo.Pure : Prop := ∀ (a0 : ByteArray) (a1_0 : Int) (a1_1 : ByteArray) (a1_2 : ByteArray) (a1_3 : ByteArray) (a1_4 : ByteArray) (a1_5 : ByteArray) (a1_6 : ByteArray) (a1_7 : ByteArray) (a1_8 : ByteArray), a0.size ≤ 140737488351232 → wf23 (⟨a1_0, a1_1, a1_2, a1_3, a1_4, a1_5, a1_6, a1_7, a1_8⟩ : S23) → (a0.size + 1) + bulk23 (⟨a1_0, a1_1, a1_2, a1_3, a1_4, a1_5, a1_6, a1_7, a1_8⟩ : S23) ≤ 1048576 → figureheadlaw21_ClearTwo.f a0 a1_0 a1_1 a1_2 a1_3 a1_4 a1_5 a1_6 a1_7 a1_8 = some true
end Go.Proofs.Ytkgdpgoianimjaa.Print
