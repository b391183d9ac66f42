/- ClearNumber: the law's own walk. -/
import Derived.Test.YtkgdpgoianimjaaKe8
namespace Go.Proofs.Ytkgdpgoianimjaa.Print
variable {v0 v1 v2 v3 v4 v5 v6 v7 v8 v9 v10 v11 v12 v13 v14 v15 v16 v17 v18 v19 v20 v21 v22 v23 v24 v25 v26 v27 v28 v29 v30 v31 v32 v33 v34 v35 v36 v37 v38 v39 v40 v41 v42 v43 v44 v45 v46 v47 v48 v49 v50 v51 v52 v53 v54 v55 v56 v57 v58 v59 v60 v61 v62 v63 v64 v65 v66 v67 v68 v69 v70 v71 v72 v73 : Value}
open Go.RowKit Go.Lib Go.Proofs.Ytkgdpgoianimjaa.Utf Go.Proofs.Ytkgdpgoianimjaa.Pure Go.Proofs.YtkgdpgoianimjaaW.PrintWords Go.Proofs.YtkgdpgoianimjaaW.PrintLast Go.Proofs.YtkgdpgoianimjaaW.PrintMore
set_option linter.unusedVariables false
set_option linter.unusedSimpArgs false
noncomputable def nuBody : Code := (Try.f5.body).getD .skip
noncomputable def Nu (k : Nat) : Code := restOf k nuBody
set_option maxHeartbeats 16000000 in
set_option maxRecDepth 1000000 in
theorem nu7 (w W : World) (sy pcs qcs : Array Value) (gs nb qb : Nat) (B : Bool) (hb : Below w.heap.size w W) (hz : pcs.size = 20) (hzq : qcs.size = 20) (hz9 : sy.size = 9)
    (hX : W.heap[nb]? = some (.cells pcs 26 (0, 0))) (hQ : W.heap[qb]? = some (.cells qcs 26 (0, 0))) (hY : W.heap[gs]? = some (.cells sy 23 (0, 0)))
    (hC : ∀ W', Below W.heap.size W W' → Calls Try.prog 11 #[.agg pcs, .agg sy] W' (BPost B W')) (hD : ∀ W', Below W.heap.size W W' → Calls Try.prog 11 #[.agg qcs, .agg sy] W' (BPost B W')) :
    Code.wp Try.prog (Nu 7) (bodyPost Try.prog Try.f5 (BPost true w)) ⟨#[v0,v1,v2,v3,v4, .pointer (some ⟨gs, 0, none⟩),v6,v7,v8, .pointer (some ⟨nb, 0, none⟩),v10, .pointer (some ⟨qb, 0, none⟩),v12,v13,v14,v15,v16,v17,v18,v19,v20,v21,v22,v23,v24,v25,v26,v27,v28,v29,v30,v31,v32,v33,v34,v35,v36,v37,v38,v39,v40,v41,v42,v43,v44,v45,v46,v47,v48,v49,v50,v51,v52,v53,v54,v55,v56,v57,v58,v59,v60,v61,v62,v63,v64,v65,v66,v67,v68,v69,v70,v71,v72,v73], []⟩ W := by
  have HB := Lib.hid hb
  have HZ := Lib.hid hz
  have HZQ := Lib.hid hzq
  have HZ9 := Lib.hid hz9
  have HX := Lib.hid hX
  have HQQ := Lib.hid hQ
  have HY := Lib.hid hY
  have HC := Lib.hid hC
  have HD := Lib.hid hD
  clear hb hz hzq hz9 hX hQ hY hC hD
  rw [show Nu 7 = .seq (stmtOf 7 nuBody) (Nu 8) from by kernel_rfl]
  have hz7 : stmtOf 7 nuBody = stmtOf 7 nuBody := rfl
  conv at hz7 => rhs; whnf
  rw [hz7]; clear hz7
  rw [show Nu 8 = Code.ret from by kernel_rfl]
  go_wp2
  refine wp_region_held_drew (S := fun w' => w'.rangeAt nb 0 pcs.toList ∧ w'.rangeAt gs 0 sy.toList ∧ w'.rangeAt qb 0 qcs.toList) (by kernel_rfl) ⟨row_range (show W.drew.heap[nb]? = _ from HX.out), row_range (show W.drew.heap[gs]? = _ from HY.out), row_range (show W.drew.heap[qb]? = _ from HQQ.out)⟩ (fun hHeld => ?_)
  refine wpAnyH_ready (rs := [0]) (by kernel_rfl) (by simp) ?_
  refine AllReadyH.cons (o := ?o0_1) ?h0_1 (fun K0 hK => ?s0_1) AllReadyH.nil
  case h0_1 => exact rfl
  rw [if_pos (by rfl)]
  go_simp
  refine (answers_calls _).mono ?_
  rintro e W1 ⟨rfl, b1⟩
  have HB1 : Hid (Below W.heap.size W W1) := Lib.hid (below_step (Below.refl _ _).drew b1)
  clear b1
  dsimp only
  refine hK.out _ _ ⟨row_range (heap_keeps HB1.out HX.out), row_range (heap_keeps HB1.out HY.out), row_range (heap_keeps HB1.out HQQ.out)⟩ (fun hHeld1 => ?_)
  clear hK K0 hHeld
  try simp only [Act.put, List.getElem_toArray, List.getElem_cons_succ, List.getElem_cons_zero, List.setIfInBounds_toArray, List.set_cons_zero, List.set_cons_succ]
  refine wpAnyH_take (i := 1) (oi := ?o1_2) (v := .bool true) ?h1_2 (by kernel_rfl) (by kernel_rfl) (by kernel_rfl) ?q1_2 ?y1_2 hHeld1 ?r1_2
  case h1_2 => exact rfl
  case q1_2 => exact fun _ _ _ h => h
  case y1_2 => exact Or.inl ⟨by rfl, fun w hw => by first | rfl | (go_simp; done) | (go_simp; kernel_rfl)⟩
  try simp only [Act.put, List.getElem_toArray, List.getElem_cons_succ, List.getElem_cons_zero, List.setIfInBounds_toArray, List.set_cons_zero, List.set_cons_succ]
  refine wpAnyH_take (i := 2) (oi := ?o2_3) (v := .agg pcs) ?h2_3 (by kernel_rfl) (by kernel_rfl) (by kernel_rfl) ?q2_3 ?y2_3 hHeld1 ?r2_3
  case h2_3 => exact rfl
  case q2_3 => exact fun _ _ _ h => h
  case y2_3 => exact yields_row (by rfl) _ _ rfl _ rfl pcs _ (fun _ h => h.1) Try.underlying26 rfl (by rw [Array.length_toList, HZ.out]; kernel_rfl)
  try simp only [Act.put, List.getElem_toArray, List.getElem_cons_succ, List.getElem_cons_zero, List.setIfInBounds_toArray, List.set_cons_zero, List.set_cons_succ]
  refine wpAnyH_take (i := 3) (oi := ?o3_4) (v := .agg sy) ?h3_4 (by kernel_rfl) (by kernel_rfl) (by kernel_rfl) ?q3_4 ?y3_4 hHeld1 ?r3_4
  case h3_4 => exact rfl
  case q3_4 => exact fun _ _ _ h => h
  case y3_4 => exact yields_row (by rfl) _ _ rfl _ rfl sy _ (fun _ h => h.2.1) Try.underlying23 rfl (by rw [Array.length_toList, HZ9.out]; kernel_rfl)
  try simp only [Act.put, List.getElem_toArray, List.getElem_cons_succ, List.getElem_cons_zero, List.setIfInBounds_toArray, List.set_cons_zero, List.set_cons_succ]
  refine wpAnyH_take (i := 5) (oi := ?o5_5) (v := .agg qcs) ?h5_5 (by kernel_rfl) (by kernel_rfl) (by kernel_rfl) ?q5_5 ?y5_5 hHeld1 ?r5_5
  case h5_5 => exact rfl
  case q5_5 => exact fun _ _ _ h => h
  case y5_5 => exact yields_row (by rfl) _ _ rfl _ rfl qcs _ (fun _ h => h.2.2) Try.underlying26 rfl (by rw [Array.length_toList, HZQ.out]; kernel_rfl)
  try simp only [Act.put, List.getElem_toArray, List.getElem_cons_succ, List.getElem_cons_zero, List.setIfInBounds_toArray, List.set_cons_zero, List.set_cons_succ]
  refine wpAnyH_take (i := 6) (oi := ?o6_6) (v := .agg sy) ?h6_6 (by kernel_rfl) (by kernel_rfl) (by kernel_rfl) ?q6_6 ?y6_6 hHeld1 ?r6_6
  case h6_6 => exact rfl
  case q6_6 => exact fun _ _ _ h => h
  case y6_6 => exact yields_row (by rfl) _ _ rfl _ rfl sy _ (fun _ h => h.2.1) Try.underlying23 rfl (by rw [Array.length_toList, HZ9.out]; kernel_rfl)
  try simp only [Act.put, List.getElem_toArray, List.getElem_cons_succ, List.getElem_cons_zero, List.setIfInBounds_toArray, List.set_cons_zero, List.set_cons_succ]
  refine wpAnyH_ready (rs := [4]) (by kernel_rfl) (by simp) ?_
  refine AllReadyH.cons (o := ?o4_7) ?h4_7 (fun K4 hK => ?s4_7) AllReadyH.nil
  case h4_7 => exact rfl
  rw [if_pos (by rfl)]
  go_simp
  refine (HC.out _ HB1.out).mono ?_
  rintro e W2 ⟨rfl, b2⟩
  have HB2 := Lib.hid (below_step HB1.out b2)
  clear b2
  dsimp only
  refine hK.out _ _ ⟨row_range (heap_keeps HB2.out HX.out), row_range (heap_keeps HB2.out HY.out), row_range (heap_keeps HB2.out HQQ.out)⟩ (fun hHeld2 => ?_)
  clear hK K4 hHeld1
  try simp only [Act.put, List.getElem_toArray, List.getElem_cons_succ, List.getElem_cons_zero, List.setIfInBounds_toArray, List.set_cons_zero, List.set_cons_succ]
  refine wpAnyH_ready (rs := [7]) (by kernel_rfl) (by simp) ?_
  refine AllReadyH.cons (o := ?o7_8) ?h7_8 (fun K7 hK => ?s7_8) AllReadyH.nil
  case h7_8 => exact rfl
  rw [if_pos (by rfl)]
  go_simp
  refine (HD.out _ HB2.out).mono ?_
  rintro e W3 ⟨rfl, b3⟩
  have HB3 := Lib.hid (below_step HB2.out b3)
  clear b3
  dsimp only
  refine hK.out _ _ ⟨row_range (heap_keeps HB3.out HX.out), row_range (heap_keeps HB3.out HY.out), row_range (heap_keeps HB3.out HQQ.out)⟩ (fun hHeld3 => ?_)
  clear hK K7 hHeld2
  try simp only [Act.put, List.getElem_toArray, List.getElem_cons_succ, List.getElem_cons_zero, List.setIfInBounds_toArray, List.set_cons_zero, List.set_cons_succ]
  refine wpAnyH_take (i := 8) (oi := ?o8_9) (v := .bool true) ?h8_9 (by kernel_rfl) (by kernel_rfl) (by kernel_rfl) ?q8_9 ?y8_9 hHeld3 ?r8_9
  case h8_9 => exact rfl
  case q8_9 => exact fun _ _ _ h => h
  case y8_9 => exact Or.inl ⟨by rfl, fun w hw => by first | rfl | (go_simp; done) | (go_simp; kernel_rfl)⟩
  try simp only [Act.put, List.getElem_toArray, List.getElem_cons_succ, List.getElem_cons_zero, List.setIfInBounds_toArray, List.set_cons_zero, List.set_cons_succ]
  refine wpAnyH_take (i := 9) (oi := ?o9_10) (v := .bool true) ?h9_10 (by kernel_rfl) (by kernel_rfl) (by kernel_rfl) ?q9_10 ?y9_10 hHeld3 ?r9_10
  case h9_10 => exact rfl
  case q9_10 => exact fun _ _ _ h => h
  case y9_10 => exact Or.inl ⟨by rfl, fun w hw => by first | rfl | (go_simp; done) | (go_simp; kernel_rfl)⟩
  try simp only [Act.put, List.getElem_toArray, List.getElem_cons_succ, List.getElem_cons_zero, List.setIfInBounds_toArray, List.set_cons_zero, List.set_cons_succ]
  refine wpAnyH_take (i := 10) (oi := ?o10_11) (v := .bool true) ?h10_11 (by kernel_rfl) (by kernel_rfl) (by kernel_rfl) ?q10_11 ?y10_11 hHeld3 ?r10_11
  case h10_11 => exact rfl
  case q10_11 => exact fun _ _ _ h => h
  case y10_11 => exact Or.inl ⟨by rfl, fun w hw => by first | rfl | (go_simp; done) | (go_simp; kernel_rfl)⟩
  try simp only [Act.put, List.getElem_toArray, List.getElem_cons_succ, List.getElem_cons_zero, List.setIfInBounds_toArray, List.set_cons_zero, List.set_cons_succ]
  refine wpAnyH_done (by kernel_rfl) ?_ _
  go_wp2
  go_ret
  exact ⟨rfl, below_step HB.out HB3.out⟩
set_option maxHeartbeats 16000000 in
set_option maxRecDepth 1000000 in
theorem nu5 (w W : World) (z : Int) (s1 s2 s3 s4 s5 s6 s7 s8 : ByteArray) (w0 w1 w3 w4 : Value) (q : PatR) (np : N.NP) (gs pb nb : Nat) (hb : Below w.heap.size w W) (hg : Gd z s1 s2 s3 s4 s5 s6 s7 s8) (hq : PatOk q) (hv : Pv W w0 w1 w3 w4 q)
    (hone : (patP w0 w1 q.hasNeg w3 w4 q.num q.at_ q.pad q.width).all (·.oneCell') = true)
    (hX : W.heap[pb]? = some (.cells (patP w0 w1 q.hasNeg w3 w4 q.num q.at_ q.pad q.width) 26 (0, 0))) (hN : W.heap[nb]? = some (.cells (patP w0 w1 q.hasNeg w3 w4 np 0 0 0) 26 (0, 0))) (hY : W.heap[gs]? = some (.cells (symC z s1 s2 s3 s4 s5 s6 s7 s8) 23 (0, 0))) :
    Code.wp Try.prog (Nu 5) (bodyPost Try.prog Try.f5 (BPost true w)) ⟨#[v0,v1,v2,v3,v4, .pointer (some ⟨gs, 0, none⟩),v6, .pointer (some ⟨pb, 0, none⟩),v8, .pointer (some ⟨nb, 0, none⟩),v10,v11,v12,v13,v14,v15,v16,v17,v18,v19,v20,v21,v22,v23,v24,v25,v26,v27,v28,v29,v30,v31,v32,v33,v34,v35,v36,v37,v38,v39,v40,v41,v42,v43,v44,v45,v46,v47,v48,v49,v50,v51,v52,v53,v54,v55,v56,v57,v58,v59,v60,v61,v62,v63,v64,v65,v66,v67,v68,v69,v70,v71,v72,v73], []⟩ W := by
  have HALL := Lib.hid (And.intro hg (And.intro hq (And.intro hv (And.intro hN hY))))
  have HB := Lib.hid hb
  have HX := Lib.hid hX
  have HONE := Lib.hid hone
  clear hb hg hq hv hX hN hY hone
  rw [show Nu 5 = .seq (stmtOf 5 nuBody) (.seq (stmtOf 6 nuBody) (Nu 7)) from by kernel_rfl]
  have hz5 : stmtOf 5 nuBody = stmtOf 5 nuBody := rfl
  conv at hz5 => rhs; whnf
  rw [hz5]; clear hz5
  have hz6 : stmtOf 6 nuBody = stmtOf 6 nuBody := rfl
  conv at hz6 => rhs; whnf
  rw [hz6]; clear hz6
  go_wp2_with (first
    | ((with_reducible refine gate_dst (N := 60) rfl ?_); refine wpList_load_mid rfl 26 (.tmp 7) rfl pb 0 rfl (patP w0 w1 q.hasNeg w3 w4 q.num q.at_ q.pad q.width).toList _ (row_range HX.out) Try.underlying26 rfl (by kernel_rfl) ?_; rw [arr_back3])
    | ((with_reducible refine gate_store (t := 26) (p := 11) rfl ?_); refine store_any_event rfl rfl rfl W.heap.size 0 (.agg (patP w0 w1 q.hasNeg w3 w4 q.num q.at_ q.pad q.width)) (patP w0 w1 q.hasNeg w3 w4 q.num q.at_ q.pad q.width) rfl rfl rfl _ _ (heap_alloc_new W _) (by kernel_rfl) (Nat.le_of_ble_eq_true (by kernel_rfl)) HONE.out _ patP_set ?_; intro W1 g p'; have HG1 := Lib.hid g; have HB1 : Hid (Below W.heap.size W W1) := Lib.hid (p'.below (below_alloc (Below.refl _ _) _) (Nat.le_refl _)); clear g p')
    | ((with_reducible refine gate_store (t := 3) (p := 61) rfl ?_); refine store_any_event rfl rfl rfl W.heap.size 17 (.int .i64 0) #[.int .i64 0] rfl rfl rfl _ _ HG1.out (by kernel_rfl) (Nat.le_of_ble_eq_true (by kernel_rfl)) (all_one1 _ rfl) _ (set_p17 _ _ _ _ _ _ _ _ _ _) ?_; intro W2 g p'; have HG2 := Lib.hid g; have HB2 : Hid (Below W.heap.size W W2) := Lib.hid (p'.below HB1.out (Nat.le_refl _)); clear g p')
    | ((with_reducible refine gate_store (t := 21) (p := 62) rfl ?_); refine store_any_event rfl rfl rfl W.heap.size 18 (.int .i32 0) #[.int .i32 0] rfl rfl rfl _ _ HG2.out (by kernel_rfl) (Nat.le_of_ble_eq_true (by kernel_rfl)) (all_one1 _ rfl) _ (set_p18 _ _ _ _ _ _ _ _ _ _) ?_; intro W3 g p'; have HG3 := Lib.hid g; have HB3 : Hid (Below W.heap.size W W3) := Lib.hid (p'.below HB2.out (Nat.le_refl _)); clear g p')
    | ((with_reducible refine gate_store (t := 3) (p := 63) rfl ?_); refine store_any_event rfl rfl rfl W.heap.size 19 (.int .i64 0) #[.int .i64 0] rfl rfl rfl _ _ HG3.out (by kernel_rfl) (Nat.le_of_ble_eq_true (by kernel_rfl)) (all_one1 _ rfl) _ (set_p19 _ _ _ _ _ _ _ _ _ _) ?_; intro W4 g p'; have HG4 := Lib.hid g; have HB4 : Hid (Below W.heap.size W W4) := Lib.hid (p'.below HB3.out (Nat.le_refl _)); clear g p'))
  obtain ⟨hg, hq, hv, hN, hY⟩ := HALL.out
  exact nu7 w W4 (symC z s1 s2 s3 s4 s5 s6 s7 s8) (patP w0 w1 q.hasNeg w3 w4 np 0 0 0) (patP w0 w1 q.hasNeg w3 w4 q.num 0 0 0) gs nb W.heap.size (clrT z s1 s2 s3 s4 s5 s6 s7 s8 0 0 q) (below_step HB.out HB4.out) rfl rfl rfl
    (heap_keeps HB4.out hN) HG4.out (heap_keeps HB4.out hY) (fun W' h => clear_Q hg.s16 w0 w1 w3 w4 hq q.hasNeg np 0 0 0 W' (hv.below (below_step HB4.out h))) (fun W' h => clear_Q hg.s16 w0 w1 w3 w4 hq q.hasNeg q.num 0 0 0 W' (hv.below (below_step HB4.out h)))
set_option maxHeartbeats 16000000 in
set_option maxRecDepth 1000000 in
theorem nu4 (w W : World) (z : Int) (s1 s2 s3 s4 s5 s6 s7 s8 : ByteArray) (w0 w1 w3 w4 : Value) (q : PatR) (np : N.NP) (gs pb nb : Nat) (hb : Below w.heap.size w W) (hnb : w.heap.size ≤ nb) (hn : pb ≠ nb) (hgn : gs ≠ nb) (hg : Gd z s1 s2 s3 s4 s5 s6 s7 s8) (hq : PatOk q) (Wc : World) (hbc : Below Wc.heap.size Wc W) (hnc : Wc.heap.size ≤ nb) (hv : Pv Wc w0 w1 w3 w4 q)
    (hone : (patP w0 w1 q.hasNeg w3 w4 q.num q.at_ q.pad q.width).all (·.oneCell') = true)
    (hX : W.heap[pb]? = some (.cells (patP w0 w1 q.hasNeg w3 w4 q.num q.at_ q.pad q.width) 26 (0, 0))) (hN : W.heap[nb]? = some (.cells (patN np) 26 (0, 0))) (hY : W.heap[gs]? = some (.cells (symC z s1 s2 s3 s4 s5 s6 s7 s8) 23 (0, 0))) :
    Code.wp Try.prog (Nu 4) (bodyPost Try.prog Try.f5 (BPost true w)) ⟨#[v0,v1,v2,v3,v4, .pointer (some ⟨gs, 0, none⟩),v6, .pointer (some ⟨pb, 0, none⟩),v8, .pointer (some ⟨nb, 0, none⟩),v10,v11,v12,v13,v14,v15,v16,v17,v18,v19,v20,v21,v22,v23,v24,v25,v26,v27,v28,v29,v30,v31,v32,v33,v34,v35,v36,v37,v38,v39,v40,v41,v42,v43,v44,v45,v46,v47,v48,v49,v50,v51,v52,v53,v54,v55,v56,v57,v58,v59,v60,v61,v62,v63,v64,v65,v66,v67,v68,v69,v70,v71,v72,v73], []⟩ W := by
  obtain ⟨r0, r1, r3, r4⟩ := hv
  have hv : Pv Wc w0 w1 w3 w4 q := ⟨r0, r1, r3, r4⟩
  obtain ⟨A0, c0, rfl, _, _⟩ := r0
  obtain ⟨A1, c1, rfl, _, _⟩ := r1
  obtain ⟨A3, c3, rfl, _, _⟩ := r3
  obtain ⟨A4, c4, rfl, _, _⟩ := r4
  have HN : Hid (W.heap[nb]? = some (.cells (patP (.slice none 0 0) (.slice none 0 0) false (.slice none 0 0) (.slice none 0 0) np 0 0 0) 26 (0, 0))) := Lib.hid hN
  have HNE := Lib.hid hn
  have HK0 : Hid (W.drew.cell? ⟨pb, 0, none⟩ = some (.slice A0 q.pre.length c0) ∧ W.drew.cell? ⟨pb, 1, none⟩ = some (.slice A1 q.suf.length c1) ∧ W.drew.cell? ⟨pb, 2, none⟩ = some (.bool q.hasNeg) ∧ W.drew.cell? ⟨pb, 3, none⟩ = some (.slice A3 q.npre.length c3) ∧ W.drew.cell? ⟨pb, 4, none⟩ = some (.slice A4 q.nsuf.length c4)) := Lib.hid ⟨(blk_cell (show W.drew.heap[pb]? = _ from hX) 0).trans rfl, (blk_cell (show W.drew.heap[pb]? = _ from hX) 1).trans rfl, (blk_cell (show W.drew.heap[pb]? = _ from hX) 2).trans rfl, (blk_cell (show W.drew.heap[pb]? = _ from hX) 3).trans rfl, (blk_cell (show W.drew.heap[pb]? = _ from hX) 4).trans rfl⟩
  have HB := Lib.hid hb
  have HALL := Lib.hid (And.intro hnb (And.intro hgn (And.intro hg (And.intro hq (And.intro hv (And.intro hone (And.intro hX (And.intro hY (And.intro hbc hnc)))))))))
  clear hb hnb hn hgn hg hq hv hone hX hN hY hbc hnc
  rw [show Nu 4 = .seq (stmtOf 4 nuBody) (Nu 5) from by kernel_rfl]
  have hz4 : stmtOf 4 nuBody = stmtOf 4 nuBody := rfl
  conv at hz4 => rhs; whnf
  rw [hz4]; clear hz4
  go_wp2
  refine wp_region_held_drew (S := fun w' => w'.cell? ⟨pb, 0, none⟩ = some (.slice A0 q.pre.length c0) ∧ w'.cell? ⟨pb, 1, none⟩ = some (.slice A1 q.suf.length c1) ∧ w'.cell? ⟨pb, 2, none⟩ = some (.bool q.hasNeg) ∧ w'.cell? ⟨pb, 3, none⟩ = some (.slice A3 q.npre.length c3) ∧ w'.cell? ⟨pb, 4, none⟩ = some (.slice A4 q.nsuf.length c4)) (by kernel_rfl) HK0.out (fun hHeld => ?_)
  refine wpAnyH_take (i := 0) (oi := ?o0_12) (v := .pointer (some ⟨pb, 0, none⟩)) ?h0_12 (by kernel_rfl) (by kernel_rfl) (by kernel_rfl) ?q0_12 ?y0_12 hHeld ?r0_12
  case h0_12 => exact rfl
  case q0_12 => exact fun _ _ _ h => h
  case y0_12 => exact Or.inl ⟨by rfl, fun w hw => by first | rfl | (go_simp; done) | (go_simp; kernel_rfl)⟩
  try simp only [Act.put, List.getElem_toArray, List.getElem_cons_succ, List.getElem_cons_zero, List.setIfInBounds_toArray, List.set_cons_zero, List.set_cons_succ]
  refine wpAnyH_take (i := 1) (oi := ?o1_13) (v := .slice A0 q.pre.length c0) ?h1_13 (by kernel_rfl) (by kernel_rfl) (by kernel_rfl) ?q1_13 ?y1_13 hHeld ?r1_13
  case h1_13 => exact rfl
  case q1_13 => exact fun _ _ _ h => h
  case y1_13 => exact Or.inl ⟨by rfl, fun w hw0 => by (obtain ⟨hw, _, _, _, _⟩ := hw0; go_simp)⟩
  try simp only [Act.put, List.getElem_toArray, List.getElem_cons_succ, List.getElem_cons_zero, List.setIfInBounds_toArray, List.set_cons_zero, List.set_cons_succ]
  refine wpAnyH_take (i := 2) (oi := ?o2_14) (v := .pointer (some ⟨pb, 1, none⟩)) ?h2_14 (by kernel_rfl) (by kernel_rfl) (by kernel_rfl) ?q2_14 ?y2_14 hHeld ?r2_14
  case h2_14 => exact rfl
  case q2_14 => exact fun _ _ _ h => h
  case y2_14 => exact Or.inl ⟨by rfl, fun w hw => by first | rfl | (go_simp; done) | (go_simp; kernel_rfl)⟩
  try simp only [Act.put, List.getElem_toArray, List.getElem_cons_succ, List.getElem_cons_zero, List.setIfInBounds_toArray, List.set_cons_zero, List.set_cons_succ]
  refine wpAnyH_take (i := 3) (oi := ?o3_15) (v := .slice A1 q.suf.length c1) ?h3_15 (by kernel_rfl) (by kernel_rfl) (by kernel_rfl) ?q3_15 ?y3_15 hHeld ?r3_15
  case h3_15 => exact rfl
  case q3_15 => exact fun _ _ _ h => h
  case y3_15 => exact Or.inl ⟨by rfl, fun w hw0 => by (obtain ⟨_, hw, _, _, _⟩ := hw0; go_simp)⟩
  try simp only [Act.put, List.getElem_toArray, List.getElem_cons_succ, List.getElem_cons_zero, List.setIfInBounds_toArray, List.set_cons_zero, List.set_cons_succ]
  refine wpAnyH_take (i := 4) (oi := ?o4_16) (v := .pointer (some ⟨pb, 2, none⟩)) ?h4_16 (by kernel_rfl) (by kernel_rfl) (by kernel_rfl) ?q4_16 ?y4_16 hHeld ?r4_16
  case h4_16 => exact rfl
  case q4_16 => exact fun _ _ _ h => h
  case y4_16 => exact Or.inl ⟨by rfl, fun w hw => by first | rfl | (go_simp; done) | (go_simp; kernel_rfl)⟩
  try simp only [Act.put, List.getElem_toArray, List.getElem_cons_succ, List.getElem_cons_zero, List.setIfInBounds_toArray, List.set_cons_zero, List.set_cons_succ]
  refine wpAnyH_take (i := 5) (oi := ?o5_17) (v := .bool q.hasNeg) ?h5_17 (by kernel_rfl) (by kernel_rfl) (by kernel_rfl) ?q5_17 ?y5_17 hHeld ?r5_17
  case h5_17 => exact rfl
  case q5_17 => exact fun _ _ _ h => h
  case y5_17 => exact Or.inl ⟨by rfl, fun w hw0 => by (obtain ⟨_, _, hw, _, _⟩ := hw0; go_simp)⟩
  try simp only [Act.put, List.getElem_toArray, List.getElem_cons_succ, List.getElem_cons_zero, List.setIfInBounds_toArray, List.set_cons_zero, List.set_cons_succ]
  refine wpAnyH_take (i := 6) (oi := ?o6_18) (v := .pointer (some ⟨pb, 3, none⟩)) ?h6_18 (by kernel_rfl) (by kernel_rfl) (by kernel_rfl) ?q6_18 ?y6_18 hHeld ?r6_18
  case h6_18 => exact rfl
  case q6_18 => exact fun _ _ _ h => h
  case y6_18 => exact Or.inl ⟨by rfl, fun w hw => by first | rfl | (go_simp; done) | (go_simp; kernel_rfl)⟩
  try simp only [Act.put, List.getElem_toArray, List.getElem_cons_succ, List.getElem_cons_zero, List.setIfInBounds_toArray, List.set_cons_zero, List.set_cons_succ]
  refine wpAnyH_take (i := 7) (oi := ?o7_19) (v := .slice A3 q.npre.length c3) ?h7_19 (by kernel_rfl) (by kernel_rfl) (by kernel_rfl) ?q7_19 ?y7_19 hHeld ?r7_19
  case h7_19 => exact rfl
  case q7_19 => exact fun _ _ _ h => h
  case y7_19 => exact Or.inl ⟨by rfl, fun w hw0 => by (obtain ⟨_, _, _, hw, _⟩ := hw0; go_simp)⟩
  try simp only [Act.put, List.getElem_toArray, List.getElem_cons_succ, List.getElem_cons_zero, List.setIfInBounds_toArray, List.set_cons_zero, List.set_cons_succ]
  refine wpAnyH_take (i := 8) (oi := ?o8_20) (v := .pointer (some ⟨pb, 4, none⟩)) ?h8_20 (by kernel_rfl) (by kernel_rfl) (by kernel_rfl) ?q8_20 ?y8_20 hHeld ?r8_20
  case h8_20 => exact rfl
  case q8_20 => exact fun _ _ _ h => h
  case y8_20 => exact Or.inl ⟨by rfl, fun w hw => by first | rfl | (go_simp; done) | (go_simp; kernel_rfl)⟩
  try simp only [Act.put, List.getElem_toArray, List.getElem_cons_succ, List.getElem_cons_zero, List.setIfInBounds_toArray, List.set_cons_zero, List.set_cons_succ]
  refine wpAnyH_take (i := 9) (oi := ?o9_21) (v := .slice A4 q.nsuf.length c4) ?h9_21 (by kernel_rfl) (by kernel_rfl) (by kernel_rfl) ?q9_21 ?y9_21 hHeld ?r9_21
  case h9_21 => exact rfl
  case q9_21 => exact fun _ _ _ h => h
  case y9_21 => exact Or.inl ⟨by rfl, fun w hw0 => by (obtain ⟨_, _, _, _, hw⟩ := hw0; go_simp)⟩
  try simp only [Act.put, List.getElem_toArray, List.getElem_cons_succ, List.getElem_cons_zero, List.setIfInBounds_toArray, List.set_cons_zero, List.set_cons_succ]
  refine wpAnyH_take (i := 10) (oi := ?o10_22) (v := .pointer (some ⟨nb, 0, none⟩)) ?h10_22 (by kernel_rfl) (by kernel_rfl) (by kernel_rfl) ?q10_22 ?y10_22 hHeld ?r10_22
  case h10_22 => exact rfl
  case q10_22 => exact fun _ _ _ h => h
  case y10_22 => exact Or.inl ⟨by rfl, fun w hw => by first | rfl | (go_simp; done) | (go_simp; kernel_rfl)⟩
  try simp only [Act.put, List.getElem_toArray, List.getElem_cons_succ, List.getElem_cons_zero, List.setIfInBounds_toArray, List.set_cons_zero, List.set_cons_succ]
  refine wpAnyH_ready (rs := [11]) (by kernel_rfl) (by simp) ?_
  refine AllReadyH.cons (o := ?o11_23) ?h11_23 (fun K11 hK => ?s11_23) AllReadyH.nil
  case h11_23 => exact rfl
  rw [if_pos (by rfl)]
  refine wpK_store _ _ _ rfl nb 0 (.slice A0 q.pre.length c0) #[.slice A0 q.pre.length c0] rfl rfl rfl _ _ (show W.drew.heap[nb]? = _ from HN.out) (by kernel_rfl) (Nat.le_of_ble_eq_true (by kernel_rfl)) (all_one1 _ rfl) _ (set_p0 _ _ _ _ _ _ _ _ _ _) (fun W11 g p' => ?_)
  have HG11 := Lib.hid g
  have HQ11 := Lib.hid p'
  have HK11 := Lib.hid (And.intro (put_cell p' HNE.out HK0.out.1) (And.intro (put_cell p' HNE.out HK0.out.2.1) (And.intro (put_cell p' HNE.out HK0.out.2.2.1) (And.intro (put_cell p' HNE.out HK0.out.2.2.2.1) (put_cell p' HNE.out HK0.out.2.2.2.2)))))
  clear g p'
  refine hK.out _ _ HK11.out (fun hHeld11 => ?_)
  clear hK K11
  try simp only [Act.put, List.getElem_toArray, List.getElem_cons_succ, List.getElem_cons_zero, List.setIfInBounds_toArray, List.set_cons_zero, List.set_cons_succ]
  refine wpAnyH_take (i := 12) (oi := ?o12_24) (v := .pointer (some ⟨nb, 1, none⟩)) ?h12_24 (by kernel_rfl) (by kernel_rfl) (by kernel_rfl) ?q12_24 ?y12_24 hHeld11 ?r12_24
  case h12_24 => exact rfl
  case q12_24 => exact fun _ _ _ h => h
  case y12_24 => exact Or.inl ⟨by rfl, fun w hw => by first | rfl | (go_simp; done) | (go_simp; kernel_rfl)⟩
  try simp only [Act.put, List.getElem_toArray, List.getElem_cons_succ, List.getElem_cons_zero, List.setIfInBounds_toArray, List.set_cons_zero, List.set_cons_succ]
  refine wpAnyH_ready (rs := [13]) (by kernel_rfl) (by simp) ?_
  refine AllReadyH.cons (o := ?o13_25) ?h13_25 (fun K13 hK => ?s13_25) AllReadyH.nil
  case h13_25 => exact rfl
  rw [if_pos (by rfl)]
  refine wpK_store _ _ _ rfl nb 1 (.slice A1 q.suf.length c1) #[.slice A1 q.suf.length c1] rfl rfl rfl _ _ HG11.out (by kernel_rfl) (Nat.le_of_ble_eq_true (by kernel_rfl)) (all_one1 _ rfl) _ (set_p1 _ _ _ _ _ _ _ _ _ _) (fun W13 g p' => ?_)
  have HG13 := Lib.hid g
  have HQ13 := Lib.hid p'
  have HK13 := Lib.hid (And.intro (put_cell p' HNE.out HK11.out.1) (And.intro (put_cell p' HNE.out HK11.out.2.1) (And.intro (put_cell p' HNE.out HK11.out.2.2.1) (And.intro (put_cell p' HNE.out HK11.out.2.2.2.1) (put_cell p' HNE.out HK11.out.2.2.2.2)))))
  clear g p'
  refine hK.out _ _ HK13.out (fun hHeld13 => ?_)
  clear hK K13
  try simp only [Act.put, List.getElem_toArray, List.getElem_cons_succ, List.getElem_cons_zero, List.setIfInBounds_toArray, List.set_cons_zero, List.set_cons_succ]
  refine wpAnyH_take (i := 14) (oi := ?o14_26) (v := .pointer (some ⟨nb, 2, none⟩)) ?h14_26 (by kernel_rfl) (by kernel_rfl) (by kernel_rfl) ?q14_26 ?y14_26 hHeld13 ?r14_26
  case h14_26 => exact rfl
  case q14_26 => exact fun _ _ _ h => h
  case y14_26 => exact Or.inl ⟨by rfl, fun w hw => by first | rfl | (go_simp; done) | (go_simp; kernel_rfl)⟩
  try simp only [Act.put, List.getElem_toArray, List.getElem_cons_succ, List.getElem_cons_zero, List.setIfInBounds_toArray, List.set_cons_zero, List.set_cons_succ]
  refine wpAnyH_ready (rs := [15]) (by kernel_rfl) (by simp) ?_
  refine AllReadyH.cons (o := ?o15_27) ?h15_27 (fun K15 hK => ?s15_27) AllReadyH.nil
  case h15_27 => exact rfl
  rw [if_pos (by rfl)]
  refine wpK_store _ _ _ rfl nb 2 (.bool q.hasNeg) #[.bool q.hasNeg] rfl rfl rfl _ _ HG13.out (by kernel_rfl) (Nat.le_of_ble_eq_true (by kernel_rfl)) (all_one1 _ rfl) _ (set_p2 _ _ _ _ _ _ _ _ _ _) (fun W15 g p' => ?_)
  have HG15 := Lib.hid g
  have HQ15 := Lib.hid p'
  have HK15 := Lib.hid (And.intro (put_cell p' HNE.out HK13.out.1) (And.intro (put_cell p' HNE.out HK13.out.2.1) (And.intro (put_cell p' HNE.out HK13.out.2.2.1) (And.intro (put_cell p' HNE.out HK13.out.2.2.2.1) (put_cell p' HNE.out HK13.out.2.2.2.2)))))
  clear g p'
  refine hK.out _ _ HK15.out (fun hHeld15 => ?_)
  clear hK K15
  try simp only [Act.put, List.getElem_toArray, List.getElem_cons_succ, List.getElem_cons_zero, List.setIfInBounds_toArray, List.set_cons_zero, List.set_cons_succ]
  refine wpAnyH_take (i := 16) (oi := ?o16_28) (v := .pointer (some ⟨nb, 3, none⟩)) ?h16_28 (by kernel_rfl) (by kernel_rfl) (by kernel_rfl) ?q16_28 ?y16_28 hHeld15 ?r16_28
  case h16_28 => exact rfl
  case q16_28 => exact fun _ _ _ h => h
  case y16_28 => exact Or.inl ⟨by rfl, fun w hw => by first | rfl | (go_simp; done) | (go_simp; kernel_rfl)⟩
  try simp only [Act.put, List.getElem_toArray, List.getElem_cons_succ, List.getElem_cons_zero, List.setIfInBounds_toArray, List.set_cons_zero, List.set_cons_succ]
  refine wpAnyH_ready (rs := [17]) (by kernel_rfl) (by simp) ?_
  refine AllReadyH.cons (o := ?o17_29) ?h17_29 (fun K17 hK => ?s17_29) AllReadyH.nil
  case h17_29 => exact rfl
  rw [if_pos (by rfl)]
  refine wpK_store _ _ _ rfl nb 3 (.slice A3 q.npre.length c3) #[.slice A3 q.npre.length c3] rfl rfl rfl _ _ HG15.out (by kernel_rfl) (Nat.le_of_ble_eq_true (by kernel_rfl)) (all_one1 _ rfl) _ (set_p3 _ _ _ _ _ _ _ _ _ _) (fun W17 g p' => ?_)
  have HG17 := Lib.hid g
  have HQ17 := Lib.hid p'
  have HK17 := Lib.hid (And.intro (put_cell p' HNE.out HK15.out.1) (And.intro (put_cell p' HNE.out HK15.out.2.1) (And.intro (put_cell p' HNE.out HK15.out.2.2.1) (And.intro (put_cell p' HNE.out HK15.out.2.2.2.1) (put_cell p' HNE.out HK15.out.2.2.2.2)))))
  clear g p'
  refine hK.out _ _ HK17.out (fun hHeld17 => ?_)
  clear hK K17
  try simp only [Act.put, List.getElem_toArray, List.getElem_cons_succ, List.getElem_cons_zero, List.setIfInBounds_toArray, List.set_cons_zero, List.set_cons_succ]
  refine wpAnyH_take (i := 18) (oi := ?o18_30) (v := .pointer (some ⟨nb, 4, none⟩)) ?h18_30 (by kernel_rfl) (by kernel_rfl) (by kernel_rfl) ?q18_30 ?y18_30 hHeld17 ?r18_30
  case h18_30 => exact rfl
  case q18_30 => exact fun _ _ _ h => h
  case y18_30 => exact Or.inl ⟨by rfl, fun w hw => by first | rfl | (go_simp; done) | (go_simp; kernel_rfl)⟩
  try simp only [Act.put, List.getElem_toArray, List.getElem_cons_succ, List.getElem_cons_zero, List.setIfInBounds_toArray, List.set_cons_zero, List.set_cons_succ]
  refine wpAnyH_ready (rs := [19]) (by kernel_rfl) (by simp) ?_
  refine AllReadyH.cons (o := ?o19_31) ?h19_31 (fun K19 hK => ?s19_31) AllReadyH.nil
  case h19_31 => exact rfl
  rw [if_pos (by rfl)]
  refine wpK_store _ _ _ rfl nb 4 (.slice A4 q.nsuf.length c4) #[.slice A4 q.nsuf.length c4] rfl rfl rfl _ _ HG17.out (by kernel_rfl) (Nat.le_of_ble_eq_true (by kernel_rfl)) (all_one1 _ rfl) _ (set_p4 _ _ _ _ _ _ _ _ _ _) (fun W19 g p' => ?_)
  have HG19 := Lib.hid g
  have HQ19 := Lib.hid p'
  have HK19 := Lib.hid (And.intro (put_cell p' HNE.out HK17.out.1) (And.intro (put_cell p' HNE.out HK17.out.2.1) (And.intro (put_cell p' HNE.out HK17.out.2.2.1) (And.intro (put_cell p' HNE.out HK17.out.2.2.2.1) (put_cell p' HNE.out HK17.out.2.2.2.2)))))
  clear g p'
  refine hK.out _ _ HK19.out (fun hHeld19 => ?_)
  clear hK K19
  try simp only [Act.put, List.getElem_toArray, List.getElem_cons_succ, List.getElem_cons_zero, List.setIfInBounds_toArray, List.set_cons_zero, List.set_cons_succ]
  refine wpAnyH_done (by kernel_rfl) ?_ _
  have hoth : ∀ k o, k ≠ nb → W.heap[k]? = some o → W19.heap[k]? = some o := fun k o hk h => HQ19.out.other (HQ17.out.other (HQ15.out.other (HQ13.out.other (HQ11.out.other (show W.drew.heap[k]? = _ from h) hk) hk) hk) hk) hk
  have hnb := HALL.out.1
  have hb9 : Below w.heap.size w W19 := HQ19.out.below (HQ17.out.below (HQ15.out.below (HQ13.out.below (HQ11.out.below HB.out.drew hnb) hnb) hnb) hnb) hnb
  have hnc := HALL.out.2.2.2.2.2.2.2.2.2
  have HBC := Lib.hid (HQ19.out.below (HQ17.out.below (HQ15.out.below (HQ13.out.below (HQ11.out.below HALL.out.2.2.2.2.2.2.2.2.1.drew hnc) hnc) hnc) hnc) hnc)
  clear hnc
  have HOTH := Lib.hid hoth
  have HB9 := Lib.hid hb9
  clear hoth hnb hb9
  go_wp2
  obtain ⟨hnb, hgn, hg, hq, hv, hone, hX, hY, _, _⟩ := HALL.out
  exact nu5 w W19 z s1 s2 s3 s4 s5 s6 s7 s8 (.slice A0 q.pre.length c0) (.slice A1 q.suf.length c1) (.slice A3 q.npre.length c3) (.slice A4 q.nsuf.length c4) q np gs pb nb HB9.out hg hq (hv.below HBC.out) hone (HOTH.out _ _ HNE.out hX) HG19.out (HOTH.out _ _ hgn hY)
set_option maxHeartbeats 16000000 in
set_option maxRecDepth 1000000 in
theorem nu3 (w W Wc : World) (t u : ByteArray) (z : Int) (s1 s2 s3 s4 s5 s6 s7 s8 : ByteArray) (pcs : Array Value) (E ea ne : Int) (np : N.NP) (r : Option PatR) (gs pb fb nb : Nat) (hb : Below w.heap.size w W) (hs : smallS z s1 s2 s3 s4 s5 s6 s7 s8) (ht : t.size ≤ 1048576) (hu : u.size ≤ 1048576) (hr : ∀ q, r = some q → PatOk q) (ho : COv r pcs E Wc) (hbc : Below Wc.heap.size Wc W) (hnc : Wc.heap.size ≤ nb) (hone : pcs.all (·.oneCell') = true)
    (hwc : w.heap.size ≤ Wc.heap.size) (hpn : pb ≠ nb) (hgn : gs ≠ nb)
    (hX : W.heap[pb]? = some (.cells pcs 26 (0, 0))) (hF : W.heap[fb]? = some (.cells #[.int .i64 E, .int .i64 ea] 29 (0, 0))) (hN : W.heap[nb]? = some (.cells (patN np) 26 (0, 0))) (hY : W.heap[gs]? = some (.cells (symC z s1 s2 s3 s4 s5 s6 s7 s8) 23 (0, 0))) :
    Code.wp Try.prog (Nu 3) (bodyPost Try.prog Try.f5 (BPost true w)) ⟨#[.string t, .string u,v2,v3,v4, .pointer (some ⟨gs, 0, none⟩),v6, .pointer (some ⟨pb, 0, none⟩), .pointer (some ⟨fb, 0, none⟩), .pointer (some ⟨nb, 0, none⟩), .int .i64 ne,v11,v12,v13,v14,v15,v16,v17,v18,v19,v20,v21,v22,v23,v24,v25,v26,v27,v28,v29,v30,v31,v32,v33,v34,v35,v36,v37,v38,v39,v40,v41,v42,v43,v44,v45,v46,v47,v48,v49,v50,v51,v52,v53,v54,v55,v56,v57,v58,v59,v60,v61,v62,v63,v64,v65,v66,v67,v68,v69,v70,v71,v72,v73], []⟩ W := by
  have e0 : W.cell? ⟨fb, 0, none⟩ = some (.int .i64 E) := (blk_cell hF 0).trans rfl
  have HB := Lib.hid hb
  have htl : (t.size : Int) ≤ 1048576 := by omega
  have hul : (u.size : Int) ≤ 1048576 := by omega
  cases r with
  | none =>
    have t1 : (E != 0) = true := bne_iff_ne.2 ho
    clear hb hs hr ho hX hF hY hN hbc hnc hone hwc hpn hgn
    rw [show Nu 3 = .seq (stmtOf 3 nuBody) (Nu 4) from by kernel_rfl]
    have hz3 : stmtOf 3 nuBody = stmtOf 3 nuBody := rfl
    conv at hz3 => rhs; whnf
    rw [hz3]; clear hz3
    go_wp2_with (go_at_call 8; (with_reducible refine (answers_calls _).mono ?_); rintro e1 W1 ⟨rfl, b1⟩; have HB1 := Lib.hid (below_step HB.out b1); clear b1)
    go_ret
    exact ⟨rfl, HB1.out⟩
  | some q =>
    obtain ⟨hE, w0, w1, w3, w4, hp, hv⟩ := ho
    subst hE hp
    have hq := hr q rfl
    have t1 : ((0 : Int) != 0) = false := rfl
    cases hne : (ne != 0) with
    | true =>
      clear hb hs hr hv hX hF hY hq hN hbc hnc hone hwc hpn hgn
      rw [show Nu 3 = .seq (stmtOf 3 nuBody) (Nu 4) from by kernel_rfl]
      have hz3 : stmtOf 3 nuBody = stmtOf 3 nuBody := rfl
      conv at hz3 => rhs; whnf
      rw [hz3]; clear hz3
      go_wp2_with (go_at_call 8; (with_reducible refine (answers_calls _).mono ?_); rintro e1 W1 ⟨rfl, b1⟩; have HB1 := Lib.hid (below_step HB.out b1); clear b1)
      go_ret
      exact ⟨rfl, HB1.out⟩
    | false =>
    by_cases h4 : (400 : Int) < (t.size : Int)
    · have t2 : decide ((400 : Int) < (t.size : Int)) = true := decide_eq_true h4
      clear hb hs hr hv hX hF hY hq h4 hN hbc hnc hone hwc hpn hgn
      rw [show Nu 3 = .seq (stmtOf 3 nuBody) (Nu 4) from by kernel_rfl]
      have hz3 : stmtOf 3 nuBody = stmtOf 3 nuBody := rfl
      conv at hz3 => rhs; whnf
      rw [hz3]; clear hz3
      go_wp2_with (go_at_call 8; (with_reducible refine (answers_calls _).mono ?_); rintro e1 W1 ⟨rfl, b1⟩; have HB1 := Lib.hid (below_step HB.out b1); clear b1)
      go_ret
      exact ⟨rfl, HB1.out⟩
    have t2 : decide ((400 : Int) < (t.size : Int)) = false := decide_eq_false h4
    by_cases h5 : (100 : Int) < (u.size : Int)
    · have t3 : decide ((100 : Int) < (u.size : Int)) = true := decide_eq_true h5
      clear hb hs hr hv hX hF hY hq h4 h5 hN hbc hnc hone hwc hpn hgn
      rw [show Nu 3 = .seq (stmtOf 3 nuBody) (Nu 4) from by kernel_rfl]
      have hz3 : stmtOf 3 nuBody = stmtOf 3 nuBody := rfl
      conv at hz3 => rhs; whnf
      rw [hz3]; clear hz3
      go_wp2_with (go_at_call 8; (with_reducible refine (answers_calls _).mono ?_); rintro e1 W1 ⟨rfl, b1⟩; have HB1 := Lib.hid (below_step HB.out b1); clear b1)
      go_ret
      exact ⟨rfl, HB1.out⟩
    have t3 : decide ((100 : Int) < (u.size : Int)) = false := decide_eq_false h5
    obtain ⟨sy, hsy⟩ : ∃ sy, sy = symC z s1 s2 s3 s4 s5 s6 s7 s8 := ⟨_, rfl⟩
    obtain ⟨G, hG⟩ : ∃ G, G = goodB z s1 s2 s3 s4 s5 s6 s7 s8 := ⟨_, rfl⟩
    have HGC : Hid (Calls Try.prog 7 #[.agg sy] W fun e w' => e = .returned (.bool G) ∧ Below W.heap.size W w') := Lib.hid (by rw [hsy, hG]; exact good_calls hs W)
    have HZ9 : Hid (sy.size = 9) := Lib.hid (by rw [hsy]; rfl)
    have HY : Hid (W.heap[gs]? = some (.cells sy 23 (0, 0))) := Lib.hid (by rw [hsy]; exact hY)
    have HALL := Lib.hid (And.intro hq (And.intro hv (And.intro hX (And.intro hY (And.intro hG (And.intro hN (And.intro hbc (And.intro hnc (And.intro hone (And.intro hwc (And.intro hpn hgn)))))))))))
    clear hb hs hr hv hX hF hY hq h4 h5 hsy hG hN hbc hnc hone hwc hpn hgn
    cases G with
    | false =>
      rw [show Nu 3 = .seq (stmtOf 3 nuBody) (Nu 4) from by kernel_rfl]
      have hz3 : stmtOf 3 nuBody = stmtOf 3 nuBody := rfl
      conv at hz3 => rhs; whnf
      rw [hz3]; clear hz3
      go_wp2_with (first
        | ((with_reducible refine gate_dst (N := 40) rfl ?_); (try (refine gate_guard (by rfl) ?_; dsimp only)); refine wpList_load_mid rfl 23 (.tmp 5) rfl gs 0 rfl sy.toList _ (row_range HY.out) Try.underlying23 rfl (by rw [Array.length_toList, HZ9.out]; kernel_rfl) ?_; rw [arr_back3])
        | (go_at_call 7; (with_reducible refine HGC.out.mono ?_); rintro e1 W0 ⟨rfl, b1⟩; have HB0 := Lib.hid (below_step HB.out b1); clear b1)
        | (go_at_call 8; (with_reducible refine (answers_calls _).mono ?_); rintro e1 W1 ⟨rfl, b1⟩; have HB1 := Lib.hid (below_step HB0.out b1); clear b1))
      go_ret
      exact ⟨rfl, HB1.out⟩
    | true =>
      rw [show Nu 3 = .seq (stmtOf 3 nuBody) (Nu 4) from by kernel_rfl]
      have hz3 : stmtOf 3 nuBody = stmtOf 3 nuBody := rfl
      conv at hz3 => rhs; whnf
      rw [hz3]; clear hz3
      go_wp2_with (first
        | ((with_reducible refine gate_dst (N := 40) rfl ?_); (try (refine gate_guard (by rfl) ?_; dsimp only)); refine wpList_load_mid rfl 23 (.tmp 5) rfl gs 0 rfl sy.toList _ (row_range HY.out) Try.underlying23 rfl (by rw [Array.length_toList, HZ9.out]; kernel_rfl) ?_; rw [arr_back3])
        | (go_at_call 7; (with_reducible refine HGC.out.mono ?_); rintro e1 W0 ⟨rfl, b1⟩; have HB0 := Lib.hid b1; clear b1))
      obtain ⟨hq, hv, hX, hY, hG, hN, hbc, hnc, hone, hwc, hpn, hgn⟩ := HALL.out
      exact nu4 w W0 z s1 s2 s3 s4 s5 s6 s7 s8 w0 w1 w3 w4 q np gs pb nb (below_step HB.out HB0.out) (Nat.le_trans hwc hnc) hpn hgn (gd_of hG.symm) hq Wc (below_step hbc HB0.out) hnc hv hone (heap_keeps HB0.out hX) (heap_keeps HB0.out hN) (heap_keeps HB0.out hY)
set_option maxHeartbeats 16000000 in
set_option maxRecDepth 1000000 in
theorem number21_calls (t u : ByteArray) (z : Int) (s1 s2 s3 s4 s5 s6 s7 s8 : ByteArray) (w : World) (ht : t.size ≤ 1048576) (hu : u.size ≤ 1048576) (hs : smallS z s1 s2 s3 s4 s5 s6 s7 s8) :
    Calls Try.prog 5 #[.string t, .string u, .agg (symC z s1 s2 s3 s4 s5 s6 s7 s8)] w (BPost true w) := by
  obtain ⟨r, hr, hcomp⟩ := compile_any t ht
  have HCOMP := Lib.hid hcomp
  obtain ⟨np, hnp⟩ : ∃ np, np = (N.numN (N.L u)).1 := ⟨_, rfl⟩
  obtain ⟨ne, hne⟩ : ∃ ne, ne = (N.numN (N.L u)).2 := ⟨_, rfl⟩
  have HNC : Hid (∀ W, Calls Try.prog 14 #[.string u] W fun e w' => e = .returned (.tuple #[.agg (patN np), .int .i64 ne]) ∧ Below W.heap.size W w') := Lib.hid fun W => by rw [hnp, hne]; exact number_calls u (by omega) W
  have HALL := Lib.hid (And.intro ht (And.intro hs (And.intro hr hu)))
  clear hcomp ht hs hr hu hnp hne
  refine calls_of_wp (c := Nu 0) Try.func5 (by kernel_rfl) ?_
  simp only [Try.ntmps5, List.size_toArray, List.length_cons, List.length_nil, Nat.reduceAdd, Nat.reduceSub, Array.replicate_succ, Array.replicate_zero, List.push_toArray, List.append_toArray, List.nil_append, List.cons_append]
  rw [show Nu 0 = .seq (stmtOf 0 nuBody) (.seq (stmtOf 1 nuBody) (.seq (stmtOf 2 nuBody) (Nu 3))) from by kernel_rfl]
  have hz0 : stmtOf 0 nuBody = stmtOf 0 nuBody := rfl
  conv at hz0 => rhs; whnf
  rw [hz0]; clear hz0
  have hz1 : stmtOf 1 nuBody = stmtOf 1 nuBody := rfl
  conv at hz1 => rhs; whnf
  rw [hz1]; clear hz1
  have hz2 : stmtOf 2 nuBody = stmtOf 2 nuBody := rfl
  conv at hz2 => rhs; whnf
  rw [hz2]; clear hz2
  unfold symC
  go_wp2_with (first
    | ((with_reducible refine gate_dst (N := 5) rfl ?_); refine box_event ?hg (N := 5) ?hd (cs := symC z s1 s2 s3 s4 s5 s6 s7 s8) (t := 23) ?hr ?_; (case hd => rfl); (case hg => rfl); (case hr => first | (go_simp; done) | (go_simp; rfl)); intro gb hg w6 hbox hb; obtain ⟨gs, hgs⟩ : ∃ gs, gs = gb := ⟨_, rfl⟩; rw [← hgs] at hbox ⊢; have HB6 := Lib.hid hb; have HY6 := Lib.hid hbox; clear hb hbox hg hgs)
    | (go_at_call 6; (with_reducible refine (HCOMP.out _).mono ?_); rintro e W2 ⟨pcs, E, ea, rfl, c1, c2, b, ho⟩; have HZ := Lib.hid c1; have HONE := Lib.hid c2; have HO := Lib.hid ho; have HB2 := Lib.hid b; clear c1 c2 b ho)
    | ((with_reducible refine gate_store (t := 26) (p := 7) rfl ?_); refine store_any_event rfl rfl rfl W2.heap.size 0 (.agg pcs) pcs rfl rfl rfl _ _ (blk_alloc (heap_alloc_new W2 _) _) (by rw [HZ.out]; kernel_rfl) (by rw [HZ.out]; exact Nat.le_of_ble_eq_true (by kernel_rfl)) HONE.out pcs (setAll_full (by rw [HZ.out]; kernel_rfl)) ?_; intro W3 g p'; have HX3 := Lib.hid g; have HF3 := Lib.hid (p'.other (alloc2 W2 _ _) (Nat.succ_ne_self _)); have HB3 : Hid (Below W2.heap.size W2 W3) := Lib.hid (p'.below (below_alloc (below_alloc (Below.refl _ _) _) _) (Nat.le_refl _)); clear g p')
    | ((with_reducible refine gate_store (t := 29) (p := 8) rfl ?_); refine store_any_event rfl rfl rfl (W2.heap.size + 1) 0 (.agg #[.int .i64 E, .int .i64 ea]) #[.int .i64 E, .int .i64 ea] rfl rfl rfl _ _ HF3.out (by kernel_rfl) (Nat.le_of_ble_eq_true (by kernel_rfl)) (all_one2 _ _ rfl rfl) _ (set_flt _ _ _ _) ?_; intro W4 g p'; have HF4 := Lib.hid g; have HB4 : Hid (Below W2.heap.size W2 W4) := Lib.hid (p'.below HB3.out (Nat.le_succ _)); have HX4 := Lib.hid (p'.other HX3.out (Nat.succ_ne_self _).symm); clear g p')
    | (go_at_call 14; (with_reducible refine (HNC.out _).mono ?_); rintro e W5 ⟨rfl, b⟩; have HB5 := Lib.hid b; clear b)
    | ((with_reducible refine gate_store (t := 26) (p := 9) rfl ?_); refine store_any_event rfl rfl rfl W5.heap.size 0 (.agg (patN np)) (patN np) rfl rfl rfl _ _ (heap_alloc_new W5 _) (by kernel_rfl) (Nat.le_of_ble_eq_true (by kernel_rfl)) (patN_one np) _ (set_pat0 np) ?_; intro W7 g p'; have HN7 := Lib.hid g; have HB7 : Hid (Below W5.heap.size W5 W7) := Lib.hid (p'.below (below_alloc (Below.refl _ _) _) (Nat.le_refl _)); clear g p'))
  obtain ⟨ht, hs, hr, hu⟩ := HALL.out
  have b47 := below_step HB5.out HB7.out
  have b27 := below_step HB4.out b47
  have l1 := blk_lt HX4.out
  have l2 := blk_lt HY6.out
  have l3 : W4.heap.size ≤ W5.heap.size := HB5.out.size
  have l4 : W2.heap.size ≤ W4.heap.size := HB4.out.size
  have l5 : w6.heap.size ≤ W2.heap.size := HB2.out.size
  exact nu3 w W7 W2 t u z s1 s2 s3 s4 s5 s6 s7 s8 pcs E ea ne np r gs W2.heap.size (W2.heap.size + 1) W5.heap.size (below_step HB6.out (below_step HB2.out b27)) hs ht hu hr HO.out b27 (Nat.le_trans l4 l3) HONE.out (Nat.le_trans HB6.out.size l5) (by omega) (by omega)
    (heap_keeps b47 HX4.out) (heap_keeps b47 HF4.out) HN7.out (heap_keeps (below_step HB2.out b27) HY6.out)
/-! ### the statement -/
def figureheadlaw21_ClearNumber.f (a0 a1 : ByteArray) (a2_0 : Int) (a2_1 a2_2 a2_3 a2_4 a2_5 a2_6 a2_7 a2_8 : ByteArray) : Option Bool := if (a0.size ≤ 1048576 ∧ a1.size ≤ 1048576) ∧ smallS a2_0 a2_1 a2_2 a2_3 a2_4 a2_5 a2_6 a2_7 a2_8 then some true else none
theorem figureheadlaw21_ClearNumber.calls (a0 a1 : ByteArray) (a2_0 : Int) (a2_1 a2_2 a2_3 a2_4 a2_5 a2_6 a2_7 a2_8 : ByteArray) (r : Bool) (w : World) (h : figureheadlaw21_ClearNumber.f a0 a1 a2_0 a2_1 a2_2 a2_3 a2_4 a2_5 a2_6 a2_7 a2_8 = some r) :
    Calls Try.prog 5 #[.string a0, .string a1, .agg #[.int .i32 a2_0, .string a2_1, .string a2_2, .string a2_3, .string a2_4, .string a2_5, .string a2_6, .string a2_7, .string a2_8]] w fun e w' => e = .returned (.bool r) ∧ Below w.heap.size w w' := by
  unfold figureheadlaw21_ClearNumber.f at h
  split at h
  · rename_i hh
    obtain rfl := Option.some.inj h
    exact number21_calls a0 a1 a2_0 a2_1 a2_2 a2_3 a2_4 a2_5 a2_6 a2_7 a2_8 w hh.1.1 hh.1.2 hh.2
  · cases h
/-- The one pure statement of ClearNumber. -/
def figureheadlaw21_ClearNumber.Pure : Prop := ∀ (a0 : ByteArray) (a1 : ByteArray) (a2_0 : Int) (a2_1 : ByteArray) (a2_2 : ByteArray) (a2_3 : ByteArray) (a2_4 : ByteArray) (a2_5 : ByteArray) (a2_6 : ByteArray) (a2_7 : ByteArray) (a2_8 : ByteArray), a0.size ≤ 140737488351232 → a1.size ≤ 140737488351232 → wf23 (⟨a2_0, a2_1, a2_2, a2_3, a2_4, a2_5, a2_6, a2_7, a2_8⟩ : S23) → (a0.size + 1) + (a1.size + 1) + bulk23 (⟨a2_0, a2_1, a2_2, a2_3, a2_4, a2_5, a2_6, a2_7, a2_8⟩ : S23) ≤ 1048576 → figureheadlaw21_ClearNumber.f a0 a1 a2_0 a2_1 a2_2 a2_3 a2_4 a2_5 a2_6 a2_7 a2_8 = some true
end Go.Proofs.Ytkgdpgoianimjaa.Print
