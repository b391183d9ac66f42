/- ClearTells: the law's own walk. -/
import Derived.Test.YtkgdpgoianimjaaKeb
namespace Go.Proofs.Ytkgdpgoianimjaa.Print
variable {v0 v1 v2 v3 v4 v5 v6 v7 v8 v9 v10 v11 v12 v13 v14 v15 v16 v17 v18 v19 v20 v21 v22 v23 v24 v25 v26 v27 v28 v29 v30 v31 v32 v33 v34 v35 v36 v37 v38 v39 v40 v41 v42 v43 v44 v45 v46 v47 v48 v49 v50 v51 v52 v53 v54 v55 v56 v57 v58 v59 v60 v61 v62 v63 v64 v65 v66 v67 v68 v69 v70 v71 v72 v73 v74 v75 v76 v77 v78 v79 v80 v81 v82 v83 v84 v85 v86 v87 : Value}
open Go.RowKit Go.Lib Go.Proofs.Ytkgdpgoianimjaa.Utf Go.Proofs.Ytkgdpgoianimjaa.Pure Go.Proofs.YtkgdpgoianimjaaW.PrintWords Go.Proofs.YtkgdpgoianimjaaW.PrintLast Go.Proofs.YtkgdpgoianimjaaW.PrintMore
set_option linter.unusedVariables false
set_option linter.unusedSimpArgs false
noncomputable def tlBody : Code := (Try.f3.body).getD .skip
noncomputable def Tl (k : Nat) : Code := restOf k tlBody
set_option maxHeartbeats 16000000 in
set_option maxRecDepth 1000000 in
theorem tl7 (w W : World) (sy pcs : Array Value) (a b c d : ByteArray) (gs pb : Nat) (B : Bool) (hb : Below w.heap.size w W) (hz : pcs.size = 20) (hz9 : sy.size = 9)
    (hX : W.heap[pb]? = some (.cells pcs 26 (0, 0))) (hY : W.heap[gs]? = some (.cells sy 23 (0, 0)))
    (hC : ∀ W', Below W.heap.size W W' → Calls Try.prog 11 #[.agg pcs, .agg sy] W' (BPost B W')) (hD : ∀ W', Below W.heap.size W W' → Calls Try.prog 12 #[.agg pcs, .agg sy] W' (BPost B W')) :
    Code.wp Try.prog (Tl 7) (bodyPost Try.prog Try.f3 (BPost true w)) ⟨#[v0,v1,v2, .pointer (some ⟨gs, 0, none⟩),v4, .pointer (some ⟨pb, 0, none⟩),v6, .string a, .string b, .string c, .string d, .string a, .string b, .string c, .string d,v15,v16,v17,v18,v19,v20,v21,v22,v23,v24,v25,v26,v27,v28,v29,v30,v31,v32,v33,v34,v35,v36,v37,v38,v39,v40,v41,v42,v43,v44,v45,v46,v47,v48,v49,v50,v51,v52,v53,v54,v55,v56,v57,v58,v59,v60,v61,v62,v63,v64,v65,v66,v67,v68,v69,v70,v71,v72,v73,v74,v75,v76,v77,v78,v79,v80,v81,v82,v83,v84,v85,v86,v87], []⟩ W := by
  have HB := Lib.hid hb
  have HZ := Lib.hid hz
  have HZ9 := Lib.hid hz9
  have HX := Lib.hid hX
  have HY := Lib.hid hY
  have HC := Lib.hid hC
  have HD := Lib.hid hD
  clear hb hz hz9 hX hY hC hD
  rw [show Tl 7 = .seq (stmtOf 7 tlBody) (Tl 8) from by kernel_rfl]
  have hz7 : stmtOf 7 tlBody = stmtOf 7 tlBody := rfl
  conv at hz7 => rhs; whnf
  rw [hz7]; clear hz7
  rw [show Tl 8 = Code.ret from by kernel_rfl]
  go_wp2
  refine wp_region_held_drew (S := fun w' => w'.rangeAt pb 0 pcs.toList ∧ w'.rangeAt gs 0 sy.toList) (by kernel_rfl) ⟨row_range (show W.drew.heap[pb]? = _ from HX.out), row_range (show W.drew.heap[gs]? = _ from HY.out)⟩ (fun hHeld => ?_)
  refine wpAnyH_ready (rs := [0]) (by kernel_rfl) (by simp) ?_
  refine AllReadyH.cons (o := ?o0_1) ?h0_1 (fun K0 hK => ?s0_1) AllReadyH.nil
  case h0_1 => exact rfl
  rw [if_pos (by rfl)]
  go_simp
  refine (answers_calls _).mono ?_
  rintro e W1 ⟨rfl, b1⟩
  have HB1 : Hid (Below W.heap.size W W1) := Lib.hid (below_step (Below.refl _ _).drew b1)
  clear b1
  dsimp only
  refine hK.out _ _ ⟨row_range (heap_keeps HB1.out HX.out), row_range (heap_keeps HB1.out HY.out)⟩ (fun hHeld1 => ?_)
  clear hK K0 hHeld
  try simp only [Act.put, List.getElem_toArray, List.getElem_cons_succ, List.getElem_cons_zero, List.setIfInBounds_toArray, List.set_cons_zero, List.set_cons_succ]
  refine wpAnyH_take (i := 1) (oi := ?o1_2) (v := .bool true) ?h1_2 (by kernel_rfl) (by kernel_rfl) (by kernel_rfl) ?q1_2 ?y1_2 hHeld1 ?r1_2
  case h1_2 => exact rfl
  case q1_2 => exact fun _ _ _ h => h
  case y1_2 => exact Or.inl ⟨by rfl, fun w hw => by first | rfl | (go_simp; done) | (go_simp; kernel_rfl)⟩
  try simp only [Act.put, List.getElem_toArray, List.getElem_cons_succ, List.getElem_cons_zero, List.setIfInBounds_toArray, List.set_cons_zero, List.set_cons_succ]
  refine wpAnyH_take (i := 2) (oi := ?o2_3) (v := .agg pcs) ?h2_3 (by kernel_rfl) (by kernel_rfl) (by kernel_rfl) ?q2_3 ?y2_3 hHeld1 ?r2_3
  case h2_3 => exact rfl
  case q2_3 => exact fun _ _ _ h => h
  case y2_3 => exact yields_row (by rfl) _ _ rfl _ rfl pcs _ (fun _ h => h.1) Try.underlying26 rfl (by rw [Array.length_toList, HZ.out]; kernel_rfl)
  try simp only [Act.put, List.getElem_toArray, List.getElem_cons_succ, List.getElem_cons_zero, List.setIfInBounds_toArray, List.set_cons_zero, List.set_cons_succ]
  refine wpAnyH_take (i := 3) (oi := ?o3_4) (v := .agg sy) ?h3_4 (by kernel_rfl) (by kernel_rfl) (by kernel_rfl) ?q3_4 ?y3_4 hHeld1 ?r3_4
  case h3_4 => exact rfl
  case q3_4 => exact fun _ _ _ h => h
  case y3_4 => exact yields_row (by rfl) _ _ rfl _ rfl sy _ (fun _ h => h.2) Try.underlying23 rfl (by rw [Array.length_toList, HZ9.out]; kernel_rfl)
  try simp only [Act.put, List.getElem_toArray, List.getElem_cons_succ, List.getElem_cons_zero, List.setIfInBounds_toArray, List.set_cons_zero, List.set_cons_succ]
  refine wpAnyH_take (i := 5) (oi := ?o5_5) (v := .agg pcs) ?h5_5 (by kernel_rfl) (by kernel_rfl) (by kernel_rfl) ?q5_5 ?y5_5 hHeld1 ?r5_5
  case h5_5 => exact rfl
  case q5_5 => exact fun _ _ _ h => h
  case y5_5 => exact yields_row (by rfl) _ _ rfl _ rfl pcs _ (fun _ h => h.1) Try.underlying26 rfl (by rw [Array.length_toList, HZ.out]; kernel_rfl)
  try simp only [Act.put, List.getElem_toArray, List.getElem_cons_succ, List.getElem_cons_zero, List.setIfInBounds_toArray, List.set_cons_zero, List.set_cons_succ]
  refine wpAnyH_take (i := 6) (oi := ?o6_6) (v := .agg sy) ?h6_6 (by kernel_rfl) (by kernel_rfl) (by kernel_rfl) ?q6_6 ?y6_6 hHeld1 ?r6_6
  case h6_6 => exact rfl
  case q6_6 => exact fun _ _ _ h => h
  case y6_6 => exact yields_row (by rfl) _ _ rfl _ rfl sy _ (fun _ h => h.2) Try.underlying23 rfl (by rw [Array.length_toList, HZ9.out]; kernel_rfl)
  try simp only [Act.put, List.getElem_toArray, List.getElem_cons_succ, List.getElem_cons_zero, List.setIfInBounds_toArray, List.set_cons_zero, List.set_cons_succ]
  refine wpAnyH_ready (rs := [4]) (by kernel_rfl) (by simp) ?_
  refine AllReadyH.cons (o := ?o4_7) ?h4_7 (fun K4 hK => ?s4_7) AllReadyH.nil
  case h4_7 => exact rfl
  rw [if_pos (by rfl)]
  go_simp
  refine (HC.out _ HB1.out).mono ?_
  rintro e W2 ⟨rfl, b2⟩
  have HB2 := Lib.hid (below_step HB1.out b2)
  clear b2
  dsimp only
  refine hK.out _ _ ⟨row_range (heap_keeps HB2.out HX.out), row_range (heap_keeps HB2.out HY.out)⟩ (fun hHeld2 => ?_)
  clear hK K4 hHeld1
  try simp only [Act.put, List.getElem_toArray, List.getElem_cons_succ, List.getElem_cons_zero, List.setIfInBounds_toArray, List.set_cons_zero, List.set_cons_succ]
  refine wpAnyH_ready (rs := [7]) (by kernel_rfl) (by simp) ?_
  refine AllReadyH.cons (o := ?o7_8) ?h7_8 (fun K7 hK => ?s7_8) AllReadyH.nil
  case h7_8 => exact rfl
  rw [if_pos (by rfl)]
  go_simp
  refine (HD.out _ HB2.out).mono ?_
  rintro e W3 ⟨rfl, b3⟩
  have HB3 := Lib.hid (below_step HB2.out b3)
  clear b3
  dsimp only
  refine hK.out _ _ ⟨row_range (heap_keeps HB3.out HX.out), row_range (heap_keeps HB3.out HY.out)⟩ (fun hHeld3 => ?_)
  clear hK K7 hHeld2
  try simp only [Act.put, List.getElem_toArray, List.getElem_cons_succ, List.getElem_cons_zero, List.setIfInBounds_toArray, List.set_cons_zero, List.set_cons_succ]
  refine wpAnyH_take (i := 8) (oi := ?o8_9) (v := .bool true) ?h8_9 (by kernel_rfl) (by kernel_rfl) (by kernel_rfl) ?q8_9 ?y8_9 hHeld3 ?r8_9
  case h8_9 => exact rfl
  case q8_9 => exact fun _ _ _ h => h
  case y8_9 => exact Or.inl ⟨by rfl, fun w hw => by first | rfl | (go_simp; done) | (go_simp; kernel_rfl)⟩
  try simp only [Act.put, List.getElem_toArray, List.getElem_cons_succ, List.getElem_cons_zero, List.setIfInBounds_toArray, List.set_cons_zero, List.set_cons_succ]
  refine wpAnyH_take (i := 9) (oi := ?o9_10) (v := .bool true) ?h9_10 (by kernel_rfl) (by kernel_rfl) (by kernel_rfl) ?q9_10 ?y9_10 hHeld3 ?r9_10
  case h9_10 => exact rfl
  case q9_10 => exact fun _ _ _ h => h
  case y9_10 => exact Or.inl ⟨by rfl, fun w hw => by first | rfl | (go_simp; done) | (go_simp; kernel_rfl)⟩
  try simp only [Act.put, List.getElem_toArray, List.getElem_cons_succ, List.getElem_cons_zero, List.setIfInBounds_toArray, List.set_cons_zero, List.set_cons_succ]
  refine wpAnyH_take (i := 10) (oi := ?o10_11) (v := .bool true) ?h10_11 (by kernel_rfl) (by kernel_rfl) (by kernel_rfl) ?q10_11 ?y10_11 hHeld3 ?r10_11
  case h10_11 => exact rfl
  case q10_11 => exact fun _ _ _ h => h
  case y10_11 => exact Or.inl ⟨by rfl, fun w hw => by first | rfl | (go_simp; done) | (go_simp; kernel_rfl)⟩
  try simp only [Act.put, List.getElem_toArray, List.getElem_cons_succ, List.getElem_cons_zero, List.setIfInBounds_toArray, List.set_cons_zero, List.set_cons_succ]
  refine wpAnyH_take (i := 11) (oi := ?o11_12) (v := .string a) ?h11_12 (by kernel_rfl) (by kernel_rfl) (by kernel_rfl) ?q11_12 ?y11_12 hHeld3 ?r11_12
  case h11_12 => exact rfl
  case q11_12 => exact fun _ _ _ h => h
  case y11_12 => exact Or.inl ⟨by rfl, fun w hw => by first | rfl | (go_simp; done) | (go_simp; kernel_rfl)⟩
  try simp only [Act.put, List.getElem_toArray, List.getElem_cons_succ, List.getElem_cons_zero, List.setIfInBounds_toArray, List.set_cons_zero, List.set_cons_succ]
  refine wpAnyH_take (i := 12) (oi := ?o12_13) (v := .string a) ?h12_13 (by kernel_rfl) (by kernel_rfl) (by kernel_rfl) ?q12_13 ?y12_13 hHeld3 ?r12_13
  case h12_13 => exact rfl
  case q12_13 => exact fun _ _ _ h => h
  case y12_13 => exact Or.inl ⟨by rfl, fun w hw => by first | rfl | (go_simp; done) | (go_simp; kernel_rfl)⟩
  try simp only [Act.put, List.getElem_toArray, List.getElem_cons_succ, List.getElem_cons_zero, List.setIfInBounds_toArray, List.set_cons_zero, List.set_cons_succ]
  refine wpAnyH_take (i := 13) (oi := ?o13_14) (v := .bool true) ?h13_14 (by kernel_rfl) (by kernel_rfl) (by kernel_rfl) ?q13_14 ?y13_14 hHeld3 ?r13_14
  case h13_14 => exact rfl
  case q13_14 => exact fun _ _ _ h => h
  case y13_14 => exact Or.inl ⟨by rfl, fun w hw => by first | rfl | (go_simp; done) | (go_simp; kernel_rfl)⟩
  try simp only [Act.put, List.getElem_toArray, List.getElem_cons_succ, List.getElem_cons_zero, List.setIfInBounds_toArray, List.set_cons_zero, List.set_cons_succ]
  refine wpAnyH_take (i := 14) (oi := ?o14_15) (v := .bool true) ?h14_15 (by kernel_rfl) (by kernel_rfl) (by kernel_rfl) ?q14_15 ?y14_15 hHeld3 ?r14_15
  case h14_15 => exact rfl
  case q14_15 => exact fun _ _ _ h => h
  case y14_15 => exact Or.inl ⟨by rfl, fun w hw => by first | rfl | (go_simp; done) | (go_simp; kernel_rfl)⟩
  try simp only [Act.put, List.getElem_toArray, List.getElem_cons_succ, List.getElem_cons_zero, List.setIfInBounds_toArray, List.set_cons_zero, List.set_cons_succ]
  refine wpAnyH_take (i := 15) (oi := ?o15_16) (v := .bool true) ?h15_16 (by kernel_rfl) (by kernel_rfl) (by kernel_rfl) ?q15_16 ?y15_16 hHeld3 ?r15_16
  case h15_16 => exact rfl
  case q15_16 => exact fun _ _ _ h => h
  case y15_16 => exact Or.inl ⟨by rfl, fun w hw => by first | rfl | (go_simp; done) | (go_simp; kernel_rfl)⟩
  try simp only [Act.put, List.getElem_toArray, List.getElem_cons_succ, List.getElem_cons_zero, List.setIfInBounds_toArray, List.set_cons_zero, List.set_cons_succ]
  refine wpAnyH_take (i := 16) (oi := ?o16_17) (v := .string b) ?h16_17 (by kernel_rfl) (by kernel_rfl) (by kernel_rfl) ?q16_17 ?y16_17 hHeld3 ?r16_17
  case h16_17 => exact rfl
  case q16_17 => exact fun _ _ _ h => h
  case y16_17 => exact Or.inl ⟨by rfl, fun w hw => by first | rfl | (go_simp; done) | (go_simp; kernel_rfl)⟩
  try simp only [Act.put, List.getElem_toArray, List.getElem_cons_succ, List.getElem_cons_zero, List.setIfInBounds_toArray, List.set_cons_zero, List.set_cons_succ]
  refine wpAnyH_take (i := 17) (oi := ?o17_18) (v := .string b) ?h17_18 (by kernel_rfl) (by kernel_rfl) (by kernel_rfl) ?q17_18 ?y17_18 hHeld3 ?r17_18
  case h17_18 => exact rfl
  case q17_18 => exact fun _ _ _ h => h
  case y17_18 => exact Or.inl ⟨by rfl, fun w hw => by first | rfl | (go_simp; done) | (go_simp; kernel_rfl)⟩
  try simp only [Act.put, List.getElem_toArray, List.getElem_cons_succ, List.getElem_cons_zero, List.setIfInBounds_toArray, List.set_cons_zero, List.set_cons_succ]
  refine wpAnyH_take (i := 18) (oi := ?o18_19) (v := .bool true) ?h18_19 (by kernel_rfl) (by kernel_rfl) (by kernel_rfl) ?q18_19 ?y18_19 hHeld3 ?r18_19
  case h18_19 => exact rfl
  case q18_19 => exact fun _ _ _ h => h
  case y18_19 => exact Or.inl ⟨by rfl, fun w hw => by first | rfl | (go_simp; done) | (go_simp; kernel_rfl)⟩
  try simp only [Act.put, List.getElem_toArray, List.getElem_cons_succ, List.getElem_cons_zero, List.setIfInBounds_toArray, List.set_cons_zero, List.set_cons_succ]
  refine wpAnyH_take (i := 19) (oi := ?o19_20) (v := .bool true) ?h19_20 (by kernel_rfl) (by kernel_rfl) (by kernel_rfl) ?q19_20 ?y19_20 hHeld3 ?r19_20
  case h19_20 => exact rfl
  case q19_20 => exact fun _ _ _ h => h
  case y19_20 => exact Or.inl ⟨by rfl, fun w hw => by first | rfl | (go_simp; done) | (go_simp; kernel_rfl)⟩
  try simp only [Act.put, List.getElem_toArray, List.getElem_cons_succ, List.getElem_cons_zero, List.setIfInBounds_toArray, List.set_cons_zero, List.set_cons_succ]
  refine wpAnyH_take (i := 20) (oi := ?o20_21) (v := .bool true) ?h20_21 (by kernel_rfl) (by kernel_rfl) (by kernel_rfl) ?q20_21 ?y20_21 hHeld3 ?r20_21
  case h20_21 => exact rfl
  case q20_21 => exact fun _ _ _ h => h
  case y20_21 => exact Or.inl ⟨by rfl, fun w hw => by first | rfl | (go_simp; done) | (go_simp; kernel_rfl)⟩
  try simp only [Act.put, List.getElem_toArray, List.getElem_cons_succ, List.getElem_cons_zero, List.setIfInBounds_toArray, List.set_cons_zero, List.set_cons_succ]
  refine wpAnyH_take (i := 21) (oi := ?o21_22) (v := .string c) ?h21_22 (by kernel_rfl) (by kernel_rfl) (by kernel_rfl) ?q21_22 ?y21_22 hHeld3 ?r21_22
  case h21_22 => exact rfl
  case q21_22 => exact fun _ _ _ h => h
  case y21_22 => exact Or.inl ⟨by rfl, fun w hw => by first | rfl | (go_simp; done) | (go_simp; kernel_rfl)⟩
  try simp only [Act.put, List.getElem_toArray, List.getElem_cons_succ, List.getElem_cons_zero, List.setIfInBounds_toArray, List.set_cons_zero, List.set_cons_succ]
  refine wpAnyH_take (i := 22) (oi := ?o22_23) (v := .string c) ?h22_23 (by kernel_rfl) (by kernel_rfl) (by kernel_rfl) ?q22_23 ?y22_23 hHeld3 ?r22_23
  case h22_23 => exact rfl
  case q22_23 => exact fun _ _ _ h => h
  case y22_23 => exact Or.inl ⟨by rfl, fun w hw => by first | rfl | (go_simp; done) | (go_simp; kernel_rfl)⟩
  try simp only [Act.put, List.getElem_toArray, List.getElem_cons_succ, List.getElem_cons_zero, List.setIfInBounds_toArray, List.set_cons_zero, List.set_cons_succ]
  refine wpAnyH_take (i := 23) (oi := ?o23_24) (v := .bool true) ?h23_24 (by kernel_rfl) (by kernel_rfl) (by kernel_rfl) ?q23_24 ?y23_24 hHeld3 ?r23_24
  case h23_24 => exact rfl
  case q23_24 => exact fun _ _ _ h => h
  case y23_24 => exact Or.inl ⟨by rfl, fun w hw => by first | rfl | (go_simp; done) | (go_simp; kernel_rfl)⟩
  try simp only [Act.put, List.getElem_toArray, List.getElem_cons_succ, List.getElem_cons_zero, List.setIfInBounds_toArray, List.set_cons_zero, List.set_cons_succ]
  refine wpAnyH_take (i := 24) (oi := ?o24_25) (v := .bool true) ?h24_25 (by kernel_rfl) (by kernel_rfl) (by kernel_rfl) ?q24_25 ?y24_25 hHeld3 ?r24_25
  case h24_25 => exact rfl
  case q24_25 => exact fun _ _ _ h => h
  case y24_25 => exact Or.inl ⟨by rfl, fun w hw => by first | rfl | (go_simp; done) | (go_simp; kernel_rfl)⟩
  try simp only [Act.put, List.getElem_toArray, List.getElem_cons_succ, List.getElem_cons_zero, List.setIfInBounds_toArray, List.set_cons_zero, List.set_cons_succ]
  refine wpAnyH_take (i := 25) (oi := ?o25_26) (v := .bool true) ?h25_26 (by kernel_rfl) (by kernel_rfl) (by kernel_rfl) ?q25_26 ?y25_26 hHeld3 ?r25_26
  case h25_26 => exact rfl
  case q25_26 => exact fun _ _ _ h => h
  case y25_26 => exact Or.inl ⟨by rfl, fun w hw => by first | rfl | (go_simp; done) | (go_simp; kernel_rfl)⟩
  try simp only [Act.put, List.getElem_toArray, List.getElem_cons_succ, List.getElem_cons_zero, List.setIfInBounds_toArray, List.set_cons_zero, List.set_cons_succ]
  refine wpAnyH_take (i := 26) (oi := ?o26_27) (v := .string d) ?h26_27 (by kernel_rfl) (by kernel_rfl) (by kernel_rfl) ?q26_27 ?y26_27 hHeld3 ?r26_27
  case h26_27 => exact rfl
  case q26_27 => exact fun _ _ _ h => h
  case y26_27 => exact Or.inl ⟨by rfl, fun w hw => by first | rfl | (go_simp; done) | (go_simp; kernel_rfl)⟩
  try simp only [Act.put, List.getElem_toArray, List.getElem_cons_succ, List.getElem_cons_zero, List.setIfInBounds_toArray, List.set_cons_zero, List.set_cons_succ]
  refine wpAnyH_take (i := 27) (oi := ?o27_28) (v := .string d) ?h27_28 (by kernel_rfl) (by kernel_rfl) (by kernel_rfl) ?q27_28 ?y27_28 hHeld3 ?r27_28
  case h27_28 => exact rfl
  case q27_28 => exact fun _ _ _ h => h
  case y27_28 => exact Or.inl ⟨by rfl, fun w hw => by first | rfl | (go_simp; done) | (go_simp; kernel_rfl)⟩
  try simp only [Act.put, List.getElem_toArray, List.getElem_cons_succ, List.getElem_cons_zero, List.setIfInBounds_toArray, List.set_cons_zero, List.set_cons_succ]
  refine wpAnyH_take (i := 28) (oi := ?o28_29) (v := .bool true) ?h28_29 (by kernel_rfl) (by kernel_rfl) (by kernel_rfl) ?q28_29 ?y28_29 hHeld3 ?r28_29
  case h28_29 => exact rfl
  case q28_29 => exact fun _ _ _ h => h
  case y28_29 => exact Or.inl ⟨by rfl, fun w hw => by first | rfl | (go_simp; done) | (go_simp; kernel_rfl)⟩
  try simp only [Act.put, List.getElem_toArray, List.getElem_cons_succ, List.getElem_cons_zero, List.setIfInBounds_toArray, List.set_cons_zero, List.set_cons_succ]
  refine wpAnyH_take (i := 29) (oi := ?o29_30) (v := .bool true) ?h29_30 (by kernel_rfl) (by kernel_rfl) (by kernel_rfl) ?q29_30 ?y29_30 hHeld3 ?r29_30
  case h29_30 => exact rfl
  case q29_30 => exact fun _ _ _ h => h
  case y29_30 => exact Or.inl ⟨by rfl, fun w hw => by first | rfl | (go_simp; done) | (go_simp; kernel_rfl)⟩
  try simp only [Act.put, List.getElem_toArray, List.getElem_cons_succ, List.getElem_cons_zero, List.setIfInBounds_toArray, List.set_cons_zero, List.set_cons_succ]
  refine wpAnyH_take (i := 30) (oi := ?o30_31) (v := .bool true) ?h30_31 (by kernel_rfl) (by kernel_rfl) (by kernel_rfl) ?q30_31 ?y30_31 hHeld3 ?r30_31
  case h30_31 => exact rfl
  case q30_31 => exact fun _ _ _ h => h
  case y30_31 => exact Or.inl ⟨by rfl, fun w hw => by first | rfl | (go_simp; done) | (go_simp; kernel_rfl)⟩
  try simp only [Act.put, List.getElem_toArray, List.getElem_cons_succ, List.getElem_cons_zero, List.setIfInBounds_toArray, List.set_cons_zero, List.set_cons_succ]
  refine wpAnyH_done (by kernel_rfl) ?_ _
  go_wp2
  go_ret
  exact ⟨rfl, below_step HB.out HB3.out⟩
set_option maxHeartbeats 16000000 in
set_option maxRecDepth 1000000 in
theorem tl3 (w W : World) (z : Int) (s1 s2 s3 s4 s5 s6 s7 s8 : ByteArray) (w0 w1 w3 w4 : Value) (q : PatR) (gs pb : Nat) (hb : Below w.heap.size w W) (hg : Gd z s1 s2 s3 s4 s5 s6 s7 s8) (hq : PatOk q) (hv : Pv W w0 w1 w3 w4 q)
    (hX : W.heap[pb]? = some (.cells (patP w0 w1 q.hasNeg w3 w4 q.num q.at_ q.pad q.width) 26 (0, 0))) (hY : W.heap[gs]? = some (.cells (symC z s1 s2 s3 s4 s5 s6 s7 s8) 23 (0, 0))) :
    Code.wp Try.prog (Tl 3) (bodyPost Try.prog Try.f3 (BPost true w)) ⟨#[v0,v1,v2, .pointer (some ⟨gs, 0, none⟩),v4, .pointer (some ⟨pb, 0, none⟩),v6,v7,v8,v9,v10,v11,v12,v13,v14,v15,v16,v17,v18,v19,v20,v21,v22,v23,v24,v25,v26,v27,v28,v29,v30,v31,v32,v33,v34,v35,v36,v37,v38,v39,v40,v41,v42,v43,v44,v45,v46,v47,v48,v49,v50,v51,v52,v53,v54,v55,v56,v57,v58,v59,v60,v61,v62,v63,v64,v65,v66,v67,v68,v69,v70,v71,v72,v73,v74,v75,v76,v77,v78,v79,v80,v81,v82,v83,v84,v85,v86,v87], []⟩ W := by
  obtain ⟨pcs, hpcs⟩ : ∃ pcs, pcs = patP w0 w1 q.hasNeg w3 w4 q.num q.at_ q.pad q.width := ⟨_, rfl⟩
  obtain ⟨sy, hsy⟩ : ∃ sy, sy = symC z s1 s2 s3 s4 s5 s6 s7 s8 := ⟨_, rfl⟩
  obtain ⟨a, ha⟩ : ∃ a, a = TT s3 s4 s5 s6 s7 q.pre := ⟨_, rfl⟩
  obtain ⟨b, hbb⟩ : ∃ b, b = TT s3 s4 s5 s6 s7 q.suf := ⟨_, rfl⟩
  obtain ⟨c, hc⟩ : ∃ c, c = TT s3 s4 s5 s6 s7 q.npre := ⟨_, rfl⟩
  obtain ⟨d, hd⟩ : ∃ d, d = TT s3 s4 s5 s6 s7 q.nsuf := ⟨_, rfl⟩
  have HP1 : Hid (∀ W', Below W.heap.size W W' → Calls Try.prog 9 #[.agg pcs, .agg sy, .bool false] W' fun e w' => e = .returned (.tuple #[.string a, .string b]) ∧ Below W'.heap.size W' w') := Lib.hid fun W' h => by
    have := pair_Q (z := z) (s1 := s1) (s2 := s2) (s8 := s8) hg.s16 w0 w1 w3 w4 hq q.hasNeg q.num q.at_ q.pad q.width false W' (hv.below h)
    simp only [Bool.false_eq_true, if_false] at this
    rw [hpcs, hsy, ha, hbb]; exact this
  have HP2 : Hid (∀ W', Below W.heap.size W W' → Calls Try.prog 9 #[.agg pcs, .agg sy, .bool true] W' fun e w' => e = .returned (.tuple #[.string c, .string d]) ∧ Below W'.heap.size W' w') := Lib.hid fun W' h => by
    have := pair_Q (z := z) (s1 := s1) (s2 := s2) (s8 := s8) hg.s16 w0 w1 w3 w4 hq q.hasNeg q.num q.at_ q.pad q.width true W' (hv.below h)
    simp only [if_true] at this
    rw [hpcs, hsy, hc, hd]; exact this
  have HR1 : Hid (∀ W', Below W.heap.size W W' → Calls Try.prog 10 #[.agg pcs, .agg sy, .bool false] W' fun e w' => e = .returned (.tuple #[.string a, .string b]) ∧ Below W'.heap.size W' w') := Lib.hid fun W' h => by
    have := refPair_T (z := z) (s1 := s1) (s2 := s2) (s8 := s8) hg.s16 w0 w1 w3 w4 hq q.hasNeg q.num q.at_ q.pad q.width false W' (hv.below h)
    simp only [Bool.false_eq_true, if_false] at this
    rw [hpcs, hsy, ha, hbb]; exact this
  have HR2 : Hid (∀ W', Below W.heap.size W W' → Calls Try.prog 10 #[.agg pcs, .agg sy, .bool true] W' fun e w' => e = .returned (.tuple #[.string c, .string d]) ∧ Below W'.heap.size W' w') := Lib.hid fun W' h => by
    have := refPair_T (z := z) (s1 := s1) (s2 := s2) (s8 := s8) hg.s16 w0 w1 w3 w4 hq q.hasNeg q.num q.at_ q.pad q.width true W' (hv.below h)
    simp only [if_true] at this
    rw [hpcs, hsy, hc, hd]; exact this
  have HC : Hid (∀ W', Below W.heap.size W W' → Calls Try.prog 11 #[.agg pcs, .agg sy] W' (BPost (clrT z s1 s2 s3 s4 s5 s6 s7 s8 q.at_ q.pad q) W')) := Lib.hid fun W' h => by
    rw [hpcs, hsy]; exact clear_Q hg.s16 w0 w1 w3 w4 hq q.hasNeg q.num q.at_ q.pad q.width W' (hv.below h)
  have HD : Hid (∀ W', Below W.heap.size W W' → Calls Try.prog 12 #[.agg pcs, .agg sy] W' (BPost (clrT z s1 s2 s3 s4 s5 s6 s7 s8 q.at_ q.pad q) W')) := Lib.hid fun W' h => by
    rw [hpcs, hsy]; exact refClear_T hg w0 w1 w3 w4 hq q.hasNeg q.num q.width W' (hv.below h)
  have HZ : Hid (pcs.size = 20) := Lib.hid (by rw [hpcs]; rfl)
  have HZ9 : Hid (sy.size = 9) := Lib.hid (by rw [hsy]; rfl)
  have HX : Hid (W.heap[pb]? = some (.cells pcs 26 (0, 0))) := Lib.hid (by rw [hpcs]; exact hX)
  have HY : Hid (W.heap[gs]? = some (.cells sy 23 (0, 0))) := Lib.hid (by rw [hsy]; exact hY)
  obtain ⟨B, hB⟩ : ∃ B, B = clrT z s1 s2 s3 s4 s5 s6 s7 s8 q.at_ q.pad q := ⟨_, rfl⟩
  rw [← hB] at HC HD
  have HB := Lib.hid hb
  clear hb hg hq hv hX hY hpcs hsy ha hbb hc hd hB
  rw [show Tl 3 = .seq (stmtOf 3 tlBody) (.seq (stmtOf 4 tlBody) (.seq (stmtOf 5 tlBody) (.seq (stmtOf 6 tlBody) (Tl 7)))) from by kernel_rfl]
  have hz3 : stmtOf 3 tlBody = stmtOf 3 tlBody := rfl
  conv at hz3 => rhs; whnf
  rw [hz3]; clear hz3
  have hz4 : stmtOf 4 tlBody = stmtOf 4 tlBody := rfl
  conv at hz4 => rhs; whnf
  rw [hz4]; clear hz4
  have hz5 : stmtOf 5 tlBody = stmtOf 5 tlBody := rfl
  conv at hz5 => rhs; whnf
  rw [hz5]; clear hz5
  have hz6 : stmtOf 6 tlBody = stmtOf 6 tlBody := rfl
  conv at hz6 => rhs; whnf
  rw [hz6]; clear hz6
  go_wp2_with (first
    | ((with_reducible refine gate_dst (N := 35) rfl ?_); refine wpList_load_mid rfl 26 (.tmp 5) rfl pb 0 rfl pcs.toList _ (row_range HX.out) Try.underlying26 rfl (by rw [Array.length_toList, HZ.out]; kernel_rfl) ?_; rw [arr_back3])
    | ((with_reducible refine gate_dst (N := 36) rfl ?_); refine wpList_load_mid rfl 23 (.tmp 3) rfl gs 0 rfl sy.toList _ (row_range HY.out) Try.underlying23 rfl (by rw [Array.length_toList, HZ9.out]; kernel_rfl) ?_; rw [arr_back3])
    | (go_at_call 9; (with_reducible refine (HP1.out _ (Below.refl _ _)).mono ?_); rintro e1 W1 ⟨rfl, b1⟩; have HB1 := Lib.hid b1; clear b1)
    | ((with_reducible refine gate_dst (N := 41) rfl ?_); refine wpList_load_mid rfl 26 (.tmp 5) rfl pb 0 rfl pcs.toList _ (row_range (heap_keeps HB1.out HX.out)) Try.underlying26 rfl (by rw [Array.length_toList, HZ.out]; kernel_rfl) ?_; rw [arr_back3])
    | ((with_reducible refine gate_dst (N := 42) rfl ?_); refine wpList_load_mid rfl 23 (.tmp 3) rfl gs 0 rfl sy.toList _ (row_range (heap_keeps HB1.out HY.out)) Try.underlying23 rfl (by rw [Array.length_toList, HZ9.out]; kernel_rfl) ?_; rw [arr_back3])
    | (go_at_call 9; (with_reducible refine (HP2.out _ HB1.out).mono ?_); rintro e1 W2 ⟨rfl, b1⟩; have HB2 := Lib.hid (below_step HB1.out b1); clear b1)
    | ((with_reducible refine gate_dst (N := 47) rfl ?_); refine wpList_load_mid rfl 26 (.tmp 5) rfl pb 0 rfl pcs.toList _ (row_range (heap_keeps HB2.out HX.out)) Try.underlying26 rfl (by rw [Array.length_toList, HZ.out]; kernel_rfl) ?_; rw [arr_back3])
    | ((with_reducible refine gate_dst (N := 48) rfl ?_); refine wpList_load_mid rfl 23 (.tmp 3) rfl gs 0 rfl sy.toList _ (row_range (heap_keeps HB2.out HY.out)) Try.underlying23 rfl (by rw [Array.length_toList, HZ9.out]; kernel_rfl) ?_; rw [arr_back3])
    | (go_at_call 10; (with_reducible refine (HR1.out _ HB2.out).mono ?_); rintro e1 W3 ⟨rfl, b1⟩; have HB3 := Lib.hid (below_step HB2.out b1); clear b1)
    | ((with_reducible refine gate_dst (N := 53) rfl ?_); refine wpList_load_mid rfl 26 (.tmp 5) rfl pb 0 rfl pcs.toList _ (row_range (heap_keeps HB3.out HX.out)) Try.underlying26 rfl (by rw [Array.length_toList, HZ.out]; kernel_rfl) ?_; rw [arr_back3])
    | ((with_reducible refine gate_dst (N := 54) rfl ?_); refine wpList_load_mid rfl 23 (.tmp 3) rfl gs 0 rfl sy.toList _ (row_range (heap_keeps HB3.out HY.out)) Try.underlying23 rfl (by rw [Array.length_toList, HZ9.out]; kernel_rfl) ?_; rw [arr_back3])
    | (go_at_call 10; (with_reducible refine (HR2.out _ HB3.out).mono ?_); rintro e1 W4 ⟨rfl, b1⟩; have HB4 := Lib.hid (below_step HB3.out b1); clear b1))
  exact tl7 w W4 sy pcs a b c d gs pb B (below_step HB.out HB4.out) HZ.out HZ9.out (heap_keeps HB4.out HX.out) (heap_keeps HB4.out HY.out) (fun W' h => HC.out W' (below_step HB4.out h)) (fun W' h => HD.out W' (below_step HB4.out h))
set_option maxHeartbeats 16000000 in
set_option maxRecDepth 1000000 in
theorem tl2 (w W : World) (t : ByteArray) (z : Int) (s1 s2 s3 s4 s5 s6 s7 s8 : ByteArray) (pcs : Array Value) (E ea : Int) (r : Option PatR) (gs pb fb : Nat) (hb : Below w.heap.size w W) (hs : smallS z s1 s2 s3 s4 s5 s6 s7 s8) (ht : t.size ≤ 1048576) (hr : ∀ q, r = some q → PatOk q) (ho : COv r pcs E W)
    (hX : W.heap[pb]? = some (.cells pcs 26 (0, 0))) (hF : W.heap[fb]? = some (.cells #[.int .i64 E, .int .i64 ea] 29 (0, 0))) (hY : W.heap[gs]? = some (.cells (symC z s1 s2 s3 s4 s5 s6 s7 s8) 23 (0, 0))) :
    Code.wp Try.prog (Tl 2) (bodyPost Try.prog Try.f3 (BPost true w)) ⟨#[.string t,v1,v2, .pointer (some ⟨gs, 0, none⟩),v4, .pointer (some ⟨pb, 0, none⟩), .pointer (some ⟨fb, 0, none⟩),v7,v8,v9,v10,v11,v12,v13,v14,v15,v16,v17,v18,v19,v20,v21,v22,v23,v24,v25,v26,v27,v28,v29,v30,v31,v32,v33,v34,v35,v36,v37,v38,v39,v40,v41,v42,v43,v44,v45,v46,v47,v48,v49,v50,v51,v52,v53,v54,v55,v56,v57,v58,v59,v60,v61,v62,v63,v64,v65,v66,v67,v68,v69,v70,v71,v72,v73,v74,v75,v76,v77,v78,v79,v80,v81,v82,v83,v84,v85,v86,v87], []⟩ W := by
  have e0 : W.cell? ⟨fb, 0, none⟩ = some (.int .i64 E) := (blk_cell hF 0).trans rfl
  have HB := Lib.hid hb
  cases r with
  | none =>
    have t1 : (E != 0) = true := bne_iff_ne.2 ho
    clear hb hs hr ho hX hF hY
    rw [show Tl 2 = .seq (stmtOf 2 tlBody) (Tl 3) from by kernel_rfl]
    have hz2 : stmtOf 2 tlBody = stmtOf 2 tlBody := rfl
    conv at hz2 => rhs; whnf
    rw [hz2]; clear hz2
    go_wp2_with (go_at_call 8; (with_reducible refine (answers_calls _).mono ?_); rintro e1 W1 ⟨rfl, b1⟩; have HB1 := Lib.hid (below_step HB.out b1); clear b1)
    go_ret
    exact ⟨rfl, HB1.out⟩
  | some q =>
    obtain ⟨hE, w0, w1, w3, w4, hp, hv⟩ := ho
    subst hE hp
    have hq := hr q rfl
    have t1 : ((0 : Int) != 0) = false := rfl
    have htl : (t.size : Int) ≤ 1048576 := by omega
    by_cases h4 : (400 : Int) < (t.size : Int)
    · have t2 : decide ((400 : Int) < (t.size : Int)) = true := decide_eq_true h4
      clear hb hs hr hv hX hF hY hq h4
      rw [show Tl 2 = .seq (stmtOf 2 tlBody) (Tl 3) from by kernel_rfl]
      have hz2 : stmtOf 2 tlBody = stmtOf 2 tlBody := rfl
      conv at hz2 => rhs; whnf
      rw [hz2]; clear hz2
      go_wp2_with (go_at_call 8; (with_reducible refine (answers_calls _).mono ?_); rintro e1 W1 ⟨rfl, b1⟩; have HB1 := Lib.hid (below_step HB.out b1); clear b1)
      go_ret
      exact ⟨rfl, HB1.out⟩
    · have t2 : decide ((400 : Int) < (t.size : Int)) = false := decide_eq_false h4
      obtain ⟨sy, hsy⟩ : ∃ sy, sy = symC z s1 s2 s3 s4 s5 s6 s7 s8 := ⟨_, rfl⟩
      obtain ⟨G, hG⟩ : ∃ G, G = goodB z s1 s2 s3 s4 s5 s6 s7 s8 := ⟨_, rfl⟩
      have HGC : Hid (Calls Try.prog 7 #[.agg sy] W fun e w' => e = .returned (.bool G) ∧ Below W.heap.size W w') := Lib.hid (by rw [hsy, hG]; exact good_calls hs W)
      have HZ9 : Hid (sy.size = 9) := Lib.hid (by rw [hsy]; rfl)
      have HY : Hid (W.heap[gs]? = some (.cells sy 23 (0, 0))) := Lib.hid (by rw [hsy]; exact hY)
      have HALL := Lib.hid (And.intro hq (And.intro hv (And.intro hX (And.intro hY hG))))
      clear hb hs hr hv hX hF hY hq h4 hsy hG
      cases G with
      | false =>
        rw [show Tl 2 = .seq (stmtOf 2 tlBody) (Tl 3) from by kernel_rfl]
        have hz2 : stmtOf 2 tlBody = stmtOf 2 tlBody := rfl
        conv at hz2 => rhs; whnf
        rw [hz2]; clear hz2
        go_wp2_with (first
          | ((with_reducible refine gate_dst (N := 29) rfl ?_); (try (refine gate_guard (by rfl) ?_; dsimp only)); refine wpList_load_mid rfl 23 (.tmp 3) rfl gs 0 rfl sy.toList _ (row_range HY.out) Try.underlying23 rfl (by rw [Array.length_toList, HZ9.out]; kernel_rfl) ?_; rw [arr_back3])
          | (go_at_call 7; (with_reducible refine HGC.out.mono ?_); rintro e1 W0 ⟨rfl, b1⟩; have HB0 := Lib.hid (below_step HB.out b1); clear b1)
          | (go_at_call 8; (with_reducible refine (answers_calls _).mono ?_); rintro e1 W1 ⟨rfl, b1⟩; have HB1 := Lib.hid (below_step HB0.out b1); clear b1))
        go_ret
        exact ⟨rfl, HB1.out⟩
      | true =>
        rw [show Tl 2 = .seq (stmtOf 2 tlBody) (Tl 3) from by kernel_rfl]
        have hz2 : stmtOf 2 tlBody = stmtOf 2 tlBody := rfl
        conv at hz2 => rhs; whnf
        rw [hz2]; clear hz2
        go_wp2_with (first
          | ((with_reducible refine gate_dst (N := 29) rfl ?_); (try (refine gate_guard (by rfl) ?_; dsimp only)); refine wpList_load_mid rfl 23 (.tmp 3) rfl gs 0 rfl sy.toList _ (row_range HY.out) Try.underlying23 rfl (by rw [Array.length_toList, HZ9.out]; kernel_rfl) ?_; rw [arr_back3])
          | (go_at_call 7; (with_reducible refine HGC.out.mono ?_); rintro e1 W0 ⟨rfl, b1⟩; have HB0 := Lib.hid b1; clear b1))
        obtain ⟨hq, hv, hX, hY, hG⟩ := HALL.out
        exact tl3 w W0 z s1 s2 s3 s4 s5 s6 s7 s8 w0 w1 w3 w4 q gs pb (below_step HB.out HB0.out) (gd_of hG.symm) hq (hv.below HB0.out) (heap_keeps HB0.out hX) (heap_keeps HB0.out hY)
set_option maxHeartbeats 16000000 in
set_option maxRecDepth 1000000 in
theorem tells_calls (t : ByteArray) (z : Int) (s1 s2 s3 s4 s5 s6 s7 s8 : ByteArray) (w : World) (ht : t.size ≤ 1048576) (hs : smallS z s1 s2 s3 s4 s5 s6 s7 s8) :
    Calls Try.prog 3 #[.string t, .agg (symC z s1 s2 s3 s4 s5 s6 s7 s8)] w (BPost true w) := by
  obtain ⟨r, hr, hcomp⟩ := compile_any t ht
  have HCOMP := Lib.hid hcomp
  have HALL := Lib.hid (And.intro ht (And.intro hs hr))
  clear hcomp ht hs hr
  refine calls_of_wp (c := Tl 0) Try.func3 (by kernel_rfl) ?_
  simp only [Try.ntmps3, List.size_toArray, List.length_cons, List.length_nil, Nat.reduceAdd, Nat.reduceSub, Array.replicate_succ, Array.replicate_zero, List.push_toArray, List.append_toArray, List.nil_append, List.cons_append]
  rw [show Tl 0 = .seq (stmtOf 0 tlBody) (.seq (stmtOf 1 tlBody) (Tl 2)) from by kernel_rfl]
  have hz0 : stmtOf 0 tlBody = stmtOf 0 tlBody := rfl
  conv at hz0 => rhs; whnf
  rw [hz0]; clear hz0
  have hz1 : stmtOf 1 tlBody = stmtOf 1 tlBody := rfl
  conv at hz1 => rhs; whnf
  rw [hz1]; clear hz1
  unfold symC
  go_wp2_with (first
    | ((with_reducible refine gate_dst (N := 3) rfl ?_); refine box_event ?hg (N := 3) ?hd (cs := symC z s1 s2 s3 s4 s5 s6 s7 s8) (t := 23) ?hr ?_; (case hd => rfl); (case hg => rfl); (case hr => first | (go_simp; done) | (go_simp; rfl)); intro gb hg w6 hbox hb; obtain ⟨gs, hgs⟩ : ∃ gs, gs = gb := ⟨_, rfl⟩; rw [← hgs] at hbox ⊢; have HB6 := Lib.hid hb; have HY6 := Lib.hid hbox; clear hb hbox hg hgs)
    | (go_at_call 6; (with_reducible refine (HCOMP.out _).mono ?_); rintro e W2 ⟨pcs, E, ea, rfl, c1, c2, b, ho⟩; have HZ := Lib.hid c1; have HONE := Lib.hid c2; have HO := Lib.hid ho; have HB2 := Lib.hid b; clear c1 c2 b ho)
    | ((with_reducible refine gate_store (t := 26) (p := 5) rfl ?_); refine store_any_event rfl rfl rfl W2.heap.size 0 (.agg pcs) pcs rfl rfl rfl _ _ (blk_alloc (heap_alloc_new W2 _) _) (by rw [HZ.out]; kernel_rfl) (by rw [HZ.out]; exact Nat.le_of_ble_eq_true (by kernel_rfl)) HONE.out pcs (setAll_full (by rw [HZ.out]; kernel_rfl)) ?_; intro W3 g p'; have HX3 := Lib.hid g; have HF3 := Lib.hid (p'.other (alloc2 W2 _ _) (Nat.succ_ne_self _)); have HB3 : Hid (Below W2.heap.size W2 W3) := Lib.hid (p'.below (below_alloc (below_alloc (Below.refl _ _) _) _) (Nat.le_refl _)); clear g p')
    | ((with_reducible refine gate_store (t := 29) (p := 6) rfl ?_); refine store_any_event rfl rfl rfl (W2.heap.size + 1) 0 (.agg #[.int .i64 E, .int .i64 ea]) #[.int .i64 E, .int .i64 ea] rfl rfl rfl _ _ HF3.out (by kernel_rfl) (Nat.le_of_ble_eq_true (by kernel_rfl)) (all_one2 _ _ rfl rfl) _ (set_flt _ _ _ _) ?_; intro W4 g p'; have HF4 := Lib.hid g; have HB4 : Hid (Below W2.heap.size W2 W4) := Lib.hid (p'.below HB3.out (Nat.le_succ _)); have HX4 := Lib.hid (p'.other HX3.out (Nat.succ_ne_self _).symm); clear g p'))
  obtain ⟨ht, hs, hr⟩ := HALL.out
  exact tl2 w W4 t z s1 s2 s3 s4 s5 s6 s7 s8 pcs E ea r gs W2.heap.size (W2.heap.size + 1) (below_step HB6.out (below_step HB2.out HB4.out)) hs ht hr (HO.out.below HB4.out) HX4.out HF4.out (heap_keeps (below_step HB2.out HB4.out) HY6.out)
/-! ### the statement -/
def figureheadlaw21_ClearTells.f (a0 : ByteArray) (a1_0 : Int) (a1_1 a1_2 a1_3 a1_4 a1_5 a1_6 a1_7 a1_8 : ByteArray) : Option Bool := if a0.size ≤ 1048576 ∧ smallS a1_0 a1_1 a1_2 a1_3 a1_4 a1_5 a1_6 a1_7 a1_8 then some true else none
theorem figureheadlaw21_ClearTells.calls (a0 : ByteArray) (a1_0 : Int) (a1_1 a1_2 a1_3 a1_4 a1_5 a1_6 a1_7 a1_8 : ByteArray) (r : Bool) (w : World) (h : figureheadlaw21_ClearTells.f a0 a1_0 a1_1 a1_2 a1_3 a1_4 a1_5 a1_6 a1_7 a1_8 = some r) :
    Calls Try.prog 3 #[.string a0, .agg #[.int .i32 a1_0, .string a1_1, .string a1_2, .string a1_3, .string a1_4, .string a1_5, .string a1_6, .string a1_7, .string a1_8]] w fun e w' => e = .returned (.bool r) ∧ Below w.heap.size w w' := by
  unfold figureheadlaw21_ClearTells.f at h
  split at h
  · rename_i hh
    obtain rfl := Option.some.inj h
    exact tells_calls a0 a1_0 a1_1 a1_2 a1_3 a1_4 a1_5 a1_6 a1_7 a1_8 w hh.1 hh.2
  · cases h
/-- The one pure statement of ClearTells. -/
def figureheadlaw21_ClearTells.Pure : Prop := ∀ (a0 : ByteArray) (a1_0 : Int) (a1_1 : ByteArray) (a1_2 : ByteArray) (a1_3 : ByteArray) (a1_4 : ByteArray) (a1_5 : ByteArray) (a1_6 : ByteArray) (a1_7 : ByteArray) (a1_8 : ByteArray), a0.size ≤ 140737488351232 → wf23 (⟨a1_0, a1_1, a1_2, a1_3, a1_4, a1_5, a1_6, a1_7, a1_8⟩ : S23) → (a0.size + 1) + bulk23 (⟨a1_0, a1_1, a1_2, a1_3, a1_4, a1_5, a1_6, a1_7, a1_8⟩ : S23) ≤ 1048576 → figureheadlaw21_ClearTells.f a0 a1_0 a1_1 a1_2 a1_3 a1_4 a1_5 a1_6 a1_7 a1_8 = some true
theorem small_of {z : Int} {s1 s2 s3 s4 s5 s6 s7 s8 : ByteArray} (hw : wf23 (⟨z, s1, s2, s3, s4, s5, s6, s7, s8⟩ : S23)) (hb : bulk23 (⟨z, s1, s2, s3, s4, s5, s6, s7, s8⟩ : S23) ≤ 1048576) : smallS z s1 s2 s3 s4 s5 s6 s7 s8 := by
  unfold bulk23 at hb
  simp only at hb
  have hz : z ≤ 2147483647 := by
    have h0 : -2147483648 ≤ z ∧ z ≤ 2147483647 := by simpa [Lit.wf, IntKind.min, IntKind.max, IntKind.signed, IntKind.bits] using hw.1
    exact h0.2
  exact ⟨hz, by omega, by omega, by omega, by omega, by omega, by omega, by omega, by omega⟩
end Go.Proofs.Ytkgdpgoianimjaa.Print
