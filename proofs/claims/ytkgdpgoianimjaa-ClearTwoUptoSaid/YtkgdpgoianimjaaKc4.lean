/- The reference's Compile: what stands behind the semicolon. -/
import Derived.Test.YtkgdpgoianimjaaKca
namespace Go.Proofs.Ytkgdpgoianimjaa.Print
variable {v0 v1 v2 v3 v4 v5 v6 v7 v8 v9 v10 v11 v12 v13 v14 v15 v16 v17 v18 v19 v20 v21 v22 v23 v24 v25 v26 v27 v28 v29 v30 v31 v32 v33 v34 v35 v36 v37 v38 v39 v40 v41 v42 v43 v44 v45 v46 v47 v48 v49 v50 v51 v52 v53 v54 v55 v56 v57 v58 v59 v60 v61 v62 v63 v64 v65 v66 v67 v68 v69 v70 v71 v72 v73 v74 v75 v76 v77 v78 v79 v80 v81 v82 v83 v84 v85 v86 v87 v88 v89 v90 v91 v92 v93 v94 v95 v96 v97 v98 v99 v100 v101 v102 v103 v104 v105 v106 v107 v108 v109 v110 v111 v112 v113 v114 v115 v116 v117 v118 v119 v120 v121 v122 v123 v124 v125 v126 v127 v128 v129 v130 v131 v132 v133 v134 v135 v136 v137 v138 v139 v140 v141 v142 v143 v144 v145 v146 v147 v148 v149 v150 v151 v152 v153 v154 v155 v156 v157 v158 v159 v160 v161 v162 v163 v164 v165 v166 v167 v168 v169 v170 v171 v172 v173 v174 v175 v176 v177 v178 v179 : Value}
open Go.RowKit Go.Proofs.Ytkgdpgoianimjaa.Utf Go.Proofs.YtkgdpgoianimjaaW.PrintWords Go.Proofs.YtkgdpgoianimjaaW.PrintLast Go.Proofs.YtkgdpgoianimjaaW.PrintMore
set_option linter.unusedVariables false
set_option linter.unusedSimpArgs false
theorem wpAnyH_listed {P : Program} {md : Region.Mode} {ops : Array Oper} {Q : Exit → Act → World → Prop} {S : World → Prop} {fuel : Nat} {l l' : Array Bool} {a : Act} {w : World} (h : l = l') (hw : wpAnyH P md ops Q S fuel l' a w) : wpAnyH P md ops Q S fuel l a w := h ▸ hw
theorem wpAnyH_cont {P : Program} {md : Region.Mode} {ops : Array Oper} {Q : Exit → Act → World → Prop} {S : World → Prop} {fuel : Nat} {l : Array Bool} {a : Act} {w : World} (F : Nat → Nat → Array Value → Int → Int → World → Prop) (act : Nat → Nat → Array Value → Int → Int → Act) (fuel' : Nat) (l' : Array Bool)
    (main : (∀ h2 v2 hcs E ea W, F h2 v2 hcs E ea W → wpAnyH P md ops Q S fuel' l' (act h2 v2 hcs E ea) W) → wpAnyH P md ops Q S fuel l a w) (cont : ∀ h2 v2 hcs E ea W, F h2 v2 hcs E ea W → wpAnyH P md ops Q S fuel' l' (act h2 v2 hcs E ea) W) : wpAnyH P md ops Q S fuel l a w := main cont
theorem wpK_alloc {P : Program} {op : Oper} {a : Act} {W : World} {K : Act → World → Prop} {Q : Exit → Act → World → Prop} (ty : TypeId) (ho : op.op = .alloc ty) (cells : Array Value) (hz : ∀ W, (execOp a.eval op).run P W = .ok (.value (.pointer (some ⟨W.heap.size, 0, none⟩))) (W.alloc (.cells cells ty (0, 0))))
    (h : ∀ W', W'.heap[W.heap.size]? = some (.cells cells ty (0, 0)) → Below W.heap.size W W' → W.heap.size + 1 ≤ W'.heap.size → K (a.put op.dst (.pointer (some ⟨W.heap.size, 0, none⟩))) W') : op.wp P a W K Q := by
  unfold Oper.wp
  rw [hz]
  refine h _ (heap_alloc_new _ _) (below_alloc (Below.refl _ _) _) ?_
  show _ ≤ (W.heap.push _).size
  rw [Array.size_push]
  exact Nat.le_refl _
theorem HOut_move {r : Option HalfR} {w W1 W2 : World} {hcs : Array Value} {E : Int} {w0 : World} (h : HOut r w hcs E W1) (hs : w0.heap.size ≤ w.heap.size) (b : Below W1.heap.size W1 W2) : HOut r w0 hcs E W2 := by
  cases r with
  | none => exact h
  | some r =>
    obtain ⟨h1, v0, v1, h2, h3, h4⟩ := h
    exact ⟨h1, v0, v1, h2, Kd.R_lower (Kd.R_below h3 b) hs, Kd.R_lower (Kd.R_below h4 b) hs⟩
theorem HOut_lower {r : Option HalfR} {w W1 : World} {hcs : Array Value} {E : Int} {w0 : World} (h : HOut r w hcs E W1) (hs : w0.heap.size ≤ w.heap.size) : HOut r w0 hcs E W1 := HOut_move h hs (Below.refl _ _)
theorem setAll_list : ∀ (vs : List Value) (o : Nat) (cs : Array Value), o + vs.length = cs.size → (setAll cs o vs).toList = cs.toList.take o ++ vs
  | [], o, cs, h => by
    simp only [setAll, List.append_nil]
    rw [List.take_of_length_le]
    simp at h ⊢; omega
  | v :: r, o, cs, h => by
    have h1 : o < cs.toList.length := by simp at h ⊢; omega
    rw [setAll, setAll_list r (o + 1) _ (by simp at h ⊢; omega), Array.toList_setIfInBounds]
    rw [List.take_add_one, List.take_set_of_le (Nat.le_refl _), List.getElem?_set_self h1]
    simp
theorem setAll_full {cs new : Array Value} (h : new.size = cs.size) : setAll cs 0 new.toList = new := by
  have := setAll_list new.toList 0 cs (by simp [h])
  simp only [List.take_zero, List.nil_append] at this
  rw [← Array.toList_inj, this]
theorem Cs.other {w W W' : World} {rb fb pb : Nat} {w0 w1 w3 w4 : Value} {q : PatR} (h : Cs w W rb fb pb w0 w1 w3 w4 q) {g t : Nat} {c : Array Value} (hg : W.heap[g]? = some (.cells c t (0, 0))) (ht : ∀ q, q ∈ 57 :: k57.E → q ≠ t) (hp : PutAt g W W')
    (glo : w.heap.size ≤ g) (n1 : rb ≠ g) (n2 : fb ≠ g) (n3 : pb ≠ g) : Cs w W' rb fb pb w0 w1 w3 w4 q :=
  ⟨h.st.store hp glo n1 n2, h.plo, h.pr, h.pf, hp.other h.hp n3, R_put h.R0 hg ht hp, R_put h.R1 hg ht hp, R_put h.R3 hg ht hp, R_put h.R4 hg ht hp⟩
theorem HOut_put {r : Option HalfR} {w W1 W2 : World} {hcs : Array Value} {E : Int} (h : HOut r w hcs E W1) {g t : Nat} {c : Array Value} (hg : W1.heap[g]? = some (.cells c t (0, 0))) (ht : ∀ q, q ∈ 57 :: k57.E → q ≠ t) (hp : PutAt g W1 W2) : HOut r w hcs E W2 := by
  cases r with
  | none => exact h
  | some r =>
    obtain ⟨h1, v0, v1, h2, h3, h4⟩ := h
    exact ⟨h1, v0, v1, h2, R_put h3 hg ht hp, R_put h4 hg ht hp⟩
def c16m (q : PatR) : Option HalfR → Option PatR
  | none => none
  | some b => c17 { q with hasNeg := true, npre := b.pre, nsuf := b.suf }
def c16q (all : List El) (s : Int) (q : PatR) : Option PatR := if 0 ≤ s then c16m q (halfF (all.drop (s.toNat + 1)) false) else c17 q
theorem c16_q (all : List El) (s : Int) (a : HalfR) : c16 all s a = c16q all s (patOf a) := by
  unfold c16 c16q
  cases halfF (all.drop (s.toNat + 1)) false <;> rfl
set_option maxHeartbeats 8000000 in
set_option maxRecDepth 1000000 in
theorem cp16a (w W : World) (rb fb pb : Nat) (w0 w1 w3 w4 : Value) (AL : Option Addr) (cL : Nat) (al : List El) (s : Int) (q : PatR) (r : Option PatR) (hr : r = c16q al s q) (hs : ¬ 0 ≤ s) (hc : Cs w W rb fb pb w0 w1 w3 w4 q)
    (l0 : q.pre.length ≤ 1000000) (l1 : q.suf.length ≤ 1000000) (l3 : q.npre.length ≤ 1000000) (l4 : q.nsuf.length ≤ 1000000) :
    Code.wp Try.prog (Cp 16) (bodyPost Try.prog Try.f6 (CPost r w)) ⟨#[v0,v1, .pointer (some ⟨rb, 0, none⟩), .pointer (some ⟨fb, 0, none⟩),v4,v5, .slice AL al.length cL,v7,v8, .int .i64 s,v10,v11,v12, .pointer (some ⟨pb, 0, none⟩),v14,v15,v16,v17,v18,v19,v20,v21,v22,v23,v24,v25,v26,v27,v28,v29,v30,v31,v32,v33,v34,v35,v36,v37,v38,v39,v40,v41,v42,v43,v44,v45,v46,v47,v48,v49,v50,v51,v52,v53,v54,v55,v56,v57,v58,v59,v60,v61,v62,v63,v64,v65,v66,v67,v68,v69,v70,v71,v72,v73,v74,v75,v76,v77,v78,v79,v80,v81,v82,v83,v84,v85,v86,v87,v88,v89,v90,v91,v92,v93,v94,v95,v96,v97,v98,v99,v100,v101,v102,v103,v104,v105,v106,v107,v108,v109,v110,v111,v112,v113,v114,v115,v116,v117,v118,v119,v120,v121,v122,v123,v124,v125,v126,v127,v128,v129,v130,v131,v132,v133,v134,v135,v136,v137,v138,v139,v140,v141,v142,v143,v144,v145,v146,v147,v148,v149,v150,v151,v152,v153,v154,v155,v156,v157,v158,v159,v160,v161,v162,v163,v164,v165,v166,v167,v168,v169,v170,v171,v172,v173,v174,v175,v176,v177,v178,v179], []⟩ W := by
  have hr2 : r = c17 q := by rw [hr]; unfold c16q; exact if_neg hs
  have t1 : decide (0 ≤ s) = false := decide_eq_false hs
  have HC := Lib.hid (And.intro hc (And.intro l0 (And.intro l1 (And.intro l3 l4))))
  clear hc l0 l1 l3 l4 hr hs
  rw [show Cp 16 = .seq (stmtOf 16 cpBody) (Cp 17) from by kernel_rfl]
  have hz16 : stmtOf 16 cpBody = stmtOf 16 cpBody := rfl
  conv at hz16 => rhs; whnf
  rw [hz16]; clear hz16
  go_wp2
  exact cp17 w W rb fb pb w0 w1 w3 w4 q r hr2 HC.out.1 HC.out.2.1 HC.out.2.2.1 HC.out.2.2.2.1 HC.out.2.2.2.2
set_option maxHeartbeats 8000000 in
set_option maxRecDepth 1000000 in
theorem cp16b (w W : World) (rb fb pb : Nat) (w0 w1 w3 w4 : Value) (AL : Option Addr) (cL : Nat) (al : List El) (sn : Nat) (q : PatR) (r : Option PatR) (hr : r = c16q al sn q) (hs : sn < al.length) (hc : Cs w W rb fb pb w0 w1 w3 w4 q)
    (he : Kd.R kEl 50 W w.heap.size (fun _ => True) (.slice AL al.length cL) al) (hl : al.length ≤ 10000000)
    (l0 : q.pre.length ≤ 1000000) (l1 : q.suf.length ≤ 1000000) (hlen : ∀ b, halfF (al.drop (sn + 1)) false = some b → b.pre.length ≤ 1000000 ∧ b.suf.length ≤ 1000000) :
    Code.wp Try.prog (Cp 16) (bodyPost Try.prog Try.f6 (CPost r w)) ⟨#[v0,v1, .pointer (some ⟨rb, 0, none⟩), .pointer (some ⟨fb, 0, none⟩),v4,v5, .slice AL al.length cL,v7,v8, .int .i64 (sn : Int),v10,v11,v12, .pointer (some ⟨pb, 0, none⟩),v14,v15,v16,v17,v18,v19,v20,v21,v22,v23,v24,v25,v26,v27,v28,v29,v30,v31,v32,v33,v34,v35,v36,v37,v38,v39,v40,v41,v42,v43,v44,v45,v46,v47,v48,v49,v50,v51,v52,v53,v54,v55,v56,v57,v58,v59,v60,v61,v62,v63,v64,v65,v66,v67,v68,v69,v70,v71,v72,v73,v74,v75,v76,v77,v78,v79,v80,v81,v82,v83,v84,v85,v86,v87,v88,v89,v90,v91,v92,v93,v94,v95,v96,v97,v98,v99,v100,v101,v102,v103,v104,v105,v106,v107,v108,v109,v110,v111,v112,v113,v114,v115,v116,v117,v118,v119,v120,v121,v122,v123,v124,v125,v126,v127,v128,v129,v130,v131,v132,v133,v134,v135,v136,v137,v138,v139,v140,v141,v142,v143,v144,v145,v146,v147,v148,v149,v150,v151,v152,v153,v154,v155,v156,v157,v158,v159,v160,v161,v162,v163,v164,v165,v166,v167,v168,v169,v170,v171,v172,v173,v174,v175,v176,v177,v178,v179], []⟩ W := by
  obtain ⟨r0, hr0⟩ : ∃ r0, r0 = halfF (al.drop (sn + 1)) false := ⟨_, rfl⟩
  have hr2 : r = c16m q r0 := by
    rw [hr, hr0]; unfold c16q
    rw [if_pos (by omega), Int.toNat_natCast]
  have HRR := Lib.hid hr2
  have HL : Hid (q.pre.length ≤ 1000000 ∧ q.suf.length ≤ 1000000 ∧ ∀ b, r0 = some b → b.pre.length ≤ 1000000 ∧ b.suf.length ≤ 1000000) := Lib.hid ⟨l0, l1, fun b hb => hlen b (hr0.symm.trans hb)⟩
  obtain ⟨hq1, hq2, hC⟩ := Kd.R_reads' he
  obtain ⟨bk, o, hA1, hbk, hcells⟩ := els_at hC (fun e => by rw [e] at hs; simp at hs)
  obtain ⟨z, hz⟩ : ∃ z, al[sn]? = some z := ⟨_, List.getElem?_eq_getElem hs⟩
  have hia := fun W => idx_els al.length cL sn bk o AL W hA1 hs
  obtain ⟨ta, hta⟩ : ∃ ta, ta = z.t.f2 := ⟨_, rfl⟩
  obtain ⟨AD, hAD⟩ : ∃ AD, AD = (if cL = sn + 1 then AL else AL.map (·.add ((sn + 1) * 4))) := ⟨_, rfl⟩
  obtain ⟨ld, hld⟩ : ∃ ld, ld = (al.drop (sn + 1)).length := ⟨_, rfl⟩
  have hsl : ∀ W, (Instr.slice 46 (.slice AL al.length cL) (some (.int .i64 ((sn : Int) + 1))) none none).run Try.prog W = .ok (.slice AD ld (cL - (sn + 1))) W := fun W => by
    rw [run_slice_l _ _ _ _ _ (by kernel_rfl) _ _ (by omega) (by omega), show Try.prog.elem 46 = 50 from by kernel_rfl, z_el]
    rw [hAD, hld, List.length_drop]
    simp [Result.andThen, sliced]
  have HS0 : Hid (bk < W.drew.heap.size ∧ W.drew.cell? ⟨bk, o + sn * 4 + 2, none⟩ = some (.int .i64 ta)) := Lib.hid ⟨hbk, by rw [hta]; exact (hcells sn z hz).2.2.1⟩
  have HCALL : Hid (∀ W', Below W.drew.heap.size W.drew W' → Calls Try.prog 17 #[.slice AD ld (cL - (sn + 1)), .int .i64 (IntKind.i64.wrap (ta + 1)), .bool false] W' (HPost r0 W')) := Lib.hid fun W' hb => by
    have hC2 := (Kd.R_reads' (Kd.R_below (Kd.R_drew he) hb)).2.2
    have := half_calls (al.drop (sn + 1)) AD (cL - (sn + 1)) (IntKind.i64.wrap (ta + 1)) false W' (by rw [hAD]; exact Kd.C_drop hC2 (by omega) hq2) (by rw [List.length_drop]; omega)
    rw [← hld, ← hr0] at this
    exact this
  have HC := Lib.hid hc
  have HB0 : Hid (Below W.drew.heap.size W.drew W.drew) := Lib.hid (Below.refl _ _)
  have t1 : decide (0 ≤ (sn : Int)) = true := decide_eq_true (by omega)
  have hw1 : IntKind.i64.wrap ((sn : Int) + 1) = (sn : Int) + 1 := by rw [IntKind.wrap_i64]; omega
  clear hr hr2 hr0 l0 l1 hlen hC hbk hcells hz hta hAD hld hc he hq1 hq2 hA1
  rw [show Cp 16 = .seq (stmtOf 16 cpBody) (Cp 17) from by kernel_rfl]
  have hz16 : stmtOf 16 cpBody = stmtOf 16 cpBody := rfl
  conv at hz16 => rhs; whnf
  rw [hz16]; clear hz16
  go_wp2
  refine wp_region_held_drew (S := fun w' => w'.cell? ⟨bk, o + sn * 4 + 2, none⟩ = some (.int .i64 ta)) (by kernel_rfl) HS0.out.2 (fun hHeld => ?_)
  refine wpAnyH_take (i := 0) (oi := ?o0_1) (v := .slice AL al.length cL) ?h0_1 (by kernel_rfl) (by kernel_rfl) (by kernel_rfl) ?q0_1 ?y0_1 hHeld ?r0_1
  case h0_1 => exact rfl
  case q0_1 => exact fun _ _ _ h => h
  case y0_1 => exact Or.inl ⟨by rfl, fun w hw => by first | rfl | (go_simp; done) | (go_simp; kernel_rfl)⟩
  try simp only [Act.put, List.getElem_toArray, List.getElem_cons_succ, List.getElem_cons_zero, List.setIfInBounds_toArray, List.set_cons_zero, List.set_cons_succ]
  refine wpAnyH_take (i := 1) (oi := ?o1_2) (v := .int .i64 (sn : Int)) ?h1_2 (by kernel_rfl) (by kernel_rfl) (by kernel_rfl) ?q1_2 ?y1_2 hHeld ?r1_2
  case h1_2 => exact rfl
  case q1_2 => exact fun _ _ _ h => h
  case y1_2 => exact Or.inl ⟨by rfl, fun w hw => by first | rfl | (go_simp; done) | (go_simp; kernel_rfl)⟩
  try simp only [Act.put, List.getElem_toArray, List.getElem_cons_succ, List.getElem_cons_zero, List.setIfInBounds_toArray, List.set_cons_zero, List.set_cons_succ]
  refine wpAnyH_take (i := 2) (oi := ?o2_3) (v := .int .i64 ((sn : Int) + 1)) ?h2_3 (by kernel_rfl) (by kernel_rfl) (by kernel_rfl) ?q2_3 ?y2_3 hHeld ?r2_3
  case h2_3 => exact rfl
  case q2_3 => exact fun _ _ _ h => h
  case y2_3 => exact Or.inl ⟨by rfl, fun w hw => by first | (go_simp; done) | (go_simp; exact hw1)⟩
  try simp only [Act.put, List.getElem_toArray, List.getElem_cons_succ, List.getElem_cons_zero, List.setIfInBounds_toArray, List.set_cons_zero, List.set_cons_succ]
  refine wpAnyH_take (i := 3) (oi := ?o3_4) (v := .slice AD ld (cL - (sn + 1))) ?h3_4 (by kernel_rfl) (by kernel_rfl) (by kernel_rfl) ?q3_4 ?y3_4 hHeld ?r3_4
  case h3_4 => exact rfl
  case q3_4 => exact fun _ _ _ h => h
  case y3_4 => exact Or.inl ⟨by rfl, fun w hw => by first | rfl | (go_simp; done) | (go_simp; kernel_rfl)⟩
  try simp only [Act.put, List.getElem_toArray, List.getElem_cons_succ, List.getElem_cons_zero, List.setIfInBounds_toArray, List.set_cons_zero, List.set_cons_succ]
  refine wpAnyH_take (i := 4) (oi := ?o4_5) (v := .slice AL al.length cL) ?h4_5 (by kernel_rfl) (by kernel_rfl) (by kernel_rfl) ?q4_5 ?y4_5 hHeld ?r4_5
  case h4_5 => exact rfl
  case q4_5 => exact fun _ _ _ h => h
  case y4_5 => exact Or.inl ⟨by rfl, fun w hw => by first | rfl | (go_simp; done) | (go_simp; kernel_rfl)⟩
  try simp only [Act.put, List.getElem_toArray, List.getElem_cons_succ, List.getElem_cons_zero, List.setIfInBounds_toArray, List.set_cons_zero, List.set_cons_succ]
  refine wpAnyH_take (i := 5) (oi := ?o5_6) (v := .int .i64 (sn : Int)) ?h5_6 (by kernel_rfl) (by kernel_rfl) (by kernel_rfl) ?q5_6 ?y5_6 hHeld ?r5_6
  case h5_6 => exact rfl
  case q5_6 => exact fun _ _ _ h => h
  case y5_6 => exact Or.inl ⟨by rfl, fun w hw => by first | rfl | (go_simp; done) | (go_simp; kernel_rfl)⟩
  try simp only [Act.put, List.getElem_toArray, List.getElem_cons_succ, List.getElem_cons_zero, List.setIfInBounds_toArray, List.set_cons_zero, List.set_cons_succ]
  refine wpAnyH_take (i := 6) (oi := ?o6_7) (v := .pointer (some ⟨bk, o + sn * 4, none⟩)) ?h6_7 (by kernel_rfl) (by kernel_rfl) (by kernel_rfl) ?q6_7 ?y6_7 hHeld ?r6_7
  case h6_7 => exact rfl
  case q6_7 => exact fun _ _ _ h => h
  case y6_7 => exact Or.inl ⟨by rfl, fun w hw => by first | rfl | (go_simp; done) | (go_simp; kernel_rfl)⟩
  try simp only [Act.put, List.getElem_toArray, List.getElem_cons_succ, List.getElem_cons_zero, List.setIfInBounds_toArray, List.set_cons_zero, List.set_cons_succ]
  refine wpAnyH_take (i := 7) (oi := ?o7_8) (v := .pointer (some ⟨bk, o + sn * 4, none⟩)) ?h7_8 (by kernel_rfl) (by kernel_rfl) (by kernel_rfl) ?q7_8 ?y7_8 hHeld ?r7_8
  case h7_8 => exact rfl
  case q7_8 => exact fun _ _ _ h => h
  case y7_8 => exact Or.inl ⟨by rfl, fun w hw => by first | rfl | (go_simp; done) | (go_simp; kernel_rfl)⟩
  try simp only [Act.put, List.getElem_toArray, List.getElem_cons_succ, List.getElem_cons_zero, List.setIfInBounds_toArray, List.set_cons_zero, List.set_cons_succ]
  refine wpAnyH_take (i := 8) (oi := ?o8_9) (v := .pointer (some ⟨bk, o + sn * 4 + 2, none⟩)) ?h8_9 (by kernel_rfl) (by kernel_rfl) (by kernel_rfl) ?q8_9 ?y8_9 hHeld ?r8_9
  case h8_9 => exact rfl
  case q8_9 => exact fun _ _ _ h => h
  case y8_9 => exact Or.inl ⟨by rfl, fun w hw => by first | rfl | (go_simp; done) | (go_simp; kernel_rfl)⟩
  try simp only [Act.put, List.getElem_toArray, List.getElem_cons_succ, List.getElem_cons_zero, List.setIfInBounds_toArray, List.set_cons_zero, List.set_cons_succ]
  refine wpAnyH_take (i := 9) (oi := ?o9_10) (v := .int .i64 ta) ?h9_10 (by kernel_rfl) (by kernel_rfl) (by kernel_rfl) ?q9_10 ?y9_10 hHeld ?r9_10
  case h9_10 => exact rfl
  case q9_10 => exact fun _ _ _ h => h
  case y9_10 => exact Or.inl ⟨by rfl, fun w hw => by (dsimp only at hw); go_simp⟩
  try simp only [Act.put, List.getElem_toArray, List.getElem_cons_succ, List.getElem_cons_zero, List.setIfInBounds_toArray, List.set_cons_zero, List.set_cons_succ]
  refine wpAnyH_take (i := 10) (oi := ?o10_11) (v := .int .i64 (IntKind.i64.wrap (ta + 1))) ?h10_11 (by kernel_rfl) (by kernel_rfl) (by kernel_rfl) ?q10_11 ?y10_11 hHeld ?r10_11
  case h10_11 => exact rfl
  case q10_11 => exact fun _ _ _ h => h
  case y10_11 => exact Or.inl ⟨by rfl, fun w hw => by first | rfl | (go_simp; done) | (go_simp; kernel_rfl)⟩
  try simp only [Act.put, List.getElem_toArray, List.getElem_cons_succ, List.getElem_cons_zero, List.setIfInBounds_toArray, List.set_cons_zero, List.set_cons_succ]
  refine wpAnyH_cont (fun h2 v2 hcs E ea W3 => h2 ≠ v2 ∧ W.drew.heap.size ≤ h2 ∧ W.drew.heap.size ≤ v2 ∧ W3.heap[h2]? = some (.cells half0 53 (0, 0)) ∧ W3.heap[v2]? = some (.cells #[.int .i64 0, .int .i64 0] 29 (0, 0)) ∧ Below W.drew.heap.size W.drew W3 ∧ hcs.size = 25 ∧ hcs.all (·.oneCell') = true ∧ HOut r0 W.drew hcs E W3)
    (fun h2 v2 hcs E ea => ⟨#[v0,v1, .pointer (some ⟨rb, 0, none⟩), .pointer (some ⟨fb, 0, none⟩),v4,v5, .slice AL al.length cL,v7,v8, .int .i64 (sn : Int),v10,v11,v12, .pointer (some ⟨pb, 0, none⟩), .pointer (some ⟨h2, 0, none⟩), .pointer (some ⟨v2, 0, none⟩),v16,v17,v18,v19,v20,v21,v22,v23,v24,v25,v26,v27,v28,v29,v30,v31,v32,v33,v34,v35,v36,v37,v38,v39,v40,v41,v42,v43,v44,v45,v46,v47,v48,v49,v50,v51,v52,v53,v54,v55,v56,v57,v58,v59,v60,v61,v62,v63,v64,v65,v66,v67,v68,v69,v70,v71,v72,v73,v74,v75,v76,v77,v78,v79,v80,v81,v82,v83,v84,v85,v86,v87,v88,v89,v90,v91,v92,v93,v94,v95,v96,v97,v98,v99,v100,v101,v102,v103,v104,v105,v106,v107,v108,v109,v110,v111,v112,v113,v114,v115,v116,v117,v118,v119,v120,v121,v122,v123,v124,v125,v126,v127,v128,v129,v130,v131,v132,v133,v134,v135,v136,v137,v138, .int .i64 (sn : Int), .bool true, .tuple #[.agg hcs, .agg #[.int .i64 E, .int .i64 ea]], .slice AL al.length cL, .int .i64 (sn : Int), .int .i64 ((sn : Int) + 1), .slice AD ld (cL - (sn + 1)), .slice AL al.length cL, .int .i64 (sn : Int), .pointer (some ⟨bk, o + sn * 4, none⟩), .pointer (some ⟨bk, o + sn * 4, none⟩), .pointer (some ⟨bk, o + sn * 4 + 2, none⟩), .int .i64 ta, .int .i64 (IntKind.i64.wrap (ta + 1)), .tuple #[.agg hcs, .agg #[.int .i64 E, .int .i64 ea]], .agg hcs, .agg #[.int .i64 E, .int .i64 ea],v156,v157,v158,v159,v160,v161,v162,v163,v164,v165,v166,v167,v168,v169,v170,v171,v172,v173,v174,v175,v176,v177,v178,v179], []⟩) 2 (#[true, true, true, true, true, true, true, true, true, true, true, true, true, true, true, true, true, false, false]) (fun cont => ?_) ?_
  · obtain ⟨W0, hW0⟩ : ∃ W0, W0 = W.drew := ⟨_, rfl⟩
    rw [← hW0] at cont HS0 HCALL HB0 ⊢
    clear hW0
    refine wpAnyH_ready (rs := [11, 15, 16]) (by kernel_rfl) (by simp) ?_
    refine (AllReadyH.cons (o := ?o11_12) ?h11_12 (fun K hK => ?s11_12) (AllReadyH.cons (o := ?o15_12) ?h15_12 (fun K hK => ?s15_12) (AllReadyH.cons (o := ?o16_12) ?h16_12 (fun K hK => ?s16_12) AllReadyH.nil)))
    case h11_12 => exact rfl
    case h15_12 => exact rfl
    case h16_12 => exact rfl
    case s11_12 =>
      rw [if_pos (by rfl)]
      go_simp
      refine (HCALL.out _ HB0.out).mono ?_
      rintro e W1 ⟨hcs, E, ea, rfl, c1, c2, b, g⟩
      have HB1 := Lib.hid (below_step HB0.out b)
      have HZ1 : Hid (W0.heap.size ≤ W1.heap.size) := Lib.hid b.size
      have HCS := Lib.hid (And.intro c1 c2)
      have HO1 := Lib.hid (HOut_lower g HB0.out.size)
      clear c1 c2 g b
      dsimp only
      refine hK.out _ _ (((HB1.out.cell (p := ⟨bk, o + sn * 4 + 2, none⟩) HS0.out.1).trans HS0.out.2)) (fun hHeld1 => ?_)
      clear hK K
      try simp only [Act.put, List.getElem_toArray, List.getElem_cons_succ, List.getElem_cons_zero, List.setIfInBounds_toArray, List.set_cons_zero, List.set_cons_succ]
      refine wpAnyH_take (i := 12) (oi := ?o12_13) (v := .tuple #[.agg hcs, .agg #[.int .i64 E, .int .i64 ea]]) ?h12_13 (by kernel_rfl) (by kernel_rfl) (by kernel_rfl) ?q12_13 ?y12_13 hHeld1 ?r12_13
      case h12_13 => exact rfl
      case q12_13 => exact fun _ _ _ h => h
      case y12_13 => exact Or.inl ⟨by rfl, fun w hw => by first | rfl | (go_simp; done) | (go_simp; kernel_rfl)⟩
      try simp only [Act.put, List.getElem_toArray, List.getElem_cons_succ, List.getElem_cons_zero, List.setIfInBounds_toArray, List.set_cons_zero, List.set_cons_succ]
      refine wpAnyH_take (i := 13) (oi := ?o13_14) (v := .agg hcs) ?h13_14 (by kernel_rfl) (by kernel_rfl) (by kernel_rfl) ?q13_14 ?y13_14 hHeld1 ?r13_14
      case h13_14 => exact rfl
      case q13_14 => exact fun _ _ _ h => h
      case y13_14 => exact Or.inl ⟨by rfl, fun w hw => by first | rfl | (go_simp; done) | (go_simp; kernel_rfl)⟩
      try simp only [Act.put, List.getElem_toArray, List.getElem_cons_succ, List.getElem_cons_zero, List.setIfInBounds_toArray, List.set_cons_zero, List.set_cons_succ]
      refine wpAnyH_take (i := 14) (oi := ?o14_15) (v := .agg #[.int .i64 E, .int .i64 ea]) ?h14_15 (by kernel_rfl) (by kernel_rfl) (by kernel_rfl) ?q14_15 ?y14_15 hHeld1 ?r14_15
      case h14_15 => exact rfl
      case q14_15 => exact fun _ _ _ h => h
      case y14_15 => exact Or.inl ⟨by rfl, fun w hw => by first | rfl | (go_simp; done) | (go_simp; kernel_rfl)⟩
      try simp only [Act.put, List.getElem_toArray, List.getElem_cons_succ, List.getElem_cons_zero, List.setIfInBounds_toArray, List.set_cons_zero, List.set_cons_succ]
      refine wpAnyH_ready (rs := [15, 16]) (by kernel_rfl) (by simp) ?_
      refine (AllReadyH.cons (o := ?o15_16) ?h15_16 (fun K hK => ?s15_16) (AllReadyH.cons (o := ?o16_16) ?h16_16 (fun K hK => ?s16_16) AllReadyH.nil))
      case h15_16 => exact rfl
      case h16_16 => exact rfl
      case s15_16 =>
        rw [if_pos (by rfl)]
        refine wpK_alloc 53 rfl half0 (fun W => by first | (go_simp; done) | (go_simp; rfl)) (fun W2 g b z => ?_)
        have HB2 := Lib.hid (below_step HB1.out b)
        have HZ2 : Hid (W1.heap.size + 1 ≤ W2.heap.size) := Lib.hid z
        have HO2 := Lib.hid (HOut_move HO1.out (Nat.le_refl _) b)
        obtain ⟨hA, hhA⟩ : ∃ h, h = W1.heap.size := ⟨_, rfl⟩
        have HA2 := Lib.hid g
        rw [← hhA] at HA2
        rw [← hhA]
        have HN15 := Lib.hid hhA
        clear g b z hhA
        refine hK.out _ _ (((HB2.out.cell (p := ⟨bk, o + sn * 4 + 2, none⟩) HS0.out.1).trans HS0.out.2)) (fun hHeld2 => ?_)
        clear hK K
        try simp only [Act.put, List.getElem_toArray, List.getElem_cons_succ, List.getElem_cons_zero, List.setIfInBounds_toArray, List.set_cons_zero, List.set_cons_succ]
        refine wpAnyH_ready (rs := [16]) (by kernel_rfl) (by simp) ?_
        refine (AllReadyH.cons (o := ?o16_17) ?h16_17 (fun K hK => ?s16_17) AllReadyH.nil)
        case h16_17 => exact rfl
        case s16_17 =>
          rw [if_pos (by rfl)]
          refine wpK_alloc 29 rfl #[.int .i64 0, .int .i64 0] (fun W => by first | (go_simp; done) | (go_simp; rfl)) (fun W3 g b z => ?_)
          have HB3 := Lib.hid (below_step HB2.out b)
          have HZ3 : Hid (W2.heap.size + 1 ≤ W3.heap.size) := Lib.hid z
          have HO3 := Lib.hid (HOut_move HO2.out (Nat.le_refl _) b)
          have HA3 := Lib.hid (heap_keeps b HA2.out)
          obtain ⟨hB, hhB⟩ : ∃ h, h = W2.heap.size := ⟨_, rfl⟩
          have HK3 := Lib.hid g
          rw [← hhB] at HK3
          rw [← hhB]
          have HN16 := Lib.hid hhB
          clear g b z hhB
          refine hK.out _ _ (((HB3.out.cell (p := ⟨bk, o + sn * 4 + 2, none⟩) HS0.out.1).trans HS0.out.2)) (fun hHeld3 => ?_)
          clear hK K
          try simp only [Act.put, List.getElem_toArray, List.getElem_cons_succ, List.getElem_cons_zero, List.setIfInBounds_toArray, List.set_cons_zero, List.set_cons_succ]
          exact wpAnyH_listed (by kernel_rfl) (cont hA hB hcs E ea W3 ⟨by have := HN15.out; have := HN16.out; have := HZ1.out; have := HZ2.out; have := HZ3.out; omega, by have := HN15.out; have := HN16.out; have := HZ1.out; have := HZ2.out; have := HZ3.out; omega, by have := HN15.out; have := HN16.out; have := HZ1.out; have := HZ2.out; have := HZ3.out; omega, HA3.out, HK3.out, HB3.out, HCS.out.1, HCS.out.2, HO3.out⟩)
      case s16_16 =>
        rw [if_pos (by rfl)]
        refine wpK_alloc 29 rfl #[.int .i64 0, .int .i64 0] (fun W => by first | (go_simp; done) | (go_simp; rfl)) (fun W2 g b z => ?_)
        have HB2 := Lib.hid (below_step HB1.out b)
        have HZ2 : Hid (W1.heap.size + 1 ≤ W2.heap.size) := Lib.hid z
        have HO2 := Lib.hid (HOut_move HO1.out (Nat.le_refl _) b)
        obtain ⟨hB, hhB⟩ : ∃ h, h = W1.heap.size := ⟨_, rfl⟩
        have HK2 := Lib.hid g
        rw [← hhB] at HK2
        rw [← hhB]
        have HN16 := Lib.hid hhB
        clear g b z hhB
        refine hK.out _ _ (((HB2.out.cell (p := ⟨bk, o + sn * 4 + 2, none⟩) HS0.out.1).trans HS0.out.2)) (fun hHeld2 => ?_)
        clear hK K
        try simp only [Act.put, List.getElem_toArray, List.getElem_cons_succ, List.getElem_cons_zero, List.setIfInBounds_toArray, List.set_cons_zero, List.set_cons_succ]
        refine wpAnyH_ready (rs := [15]) (by kernel_rfl) (by simp) ?_
        refine (AllReadyH.cons (o := ?o15_18) ?h15_18 (fun K hK => ?s15_18) AllReadyH.nil)
        case h15_18 => exact rfl
        case s15_18 =>
          rw [if_pos (by rfl)]
          refine wpK_alloc 53 rfl half0 (fun W => by first | (go_simp; done) | (go_simp; rfl)) (fun W3 g b z => ?_)
          have HB3 := Lib.hid (below_step HB2.out b)
          have HZ3 : Hid (W2.heap.size + 1 ≤ W3.heap.size) := Lib.hid z
          have HO3 := Lib.hid (HOut_move HO2.out (Nat.le_refl _) b)
          have HK3 := Lib.hid (heap_keeps b HK2.out)
          obtain ⟨hA, hhA⟩ : ∃ h, h = W2.heap.size := ⟨_, rfl⟩
          have HA3 := Lib.hid g
          rw [← hhA] at HA3
          rw [← hhA]
          have HN15 := Lib.hid hhA
          clear g b z hhA
          refine hK.out _ _ (((HB3.out.cell (p := ⟨bk, o + sn * 4 + 2, none⟩) HS0.out.1).trans HS0.out.2)) (fun hHeld3 => ?_)
          clear hK K
          try simp only [Act.put, List.getElem_toArray, List.getElem_cons_succ, List.getElem_cons_zero, List.setIfInBounds_toArray, List.set_cons_zero, List.set_cons_succ]
          exact wpAnyH_listed (by kernel_rfl) (cont hA hB hcs E ea W3 ⟨by have := HN15.out; have := HN16.out; have := HZ1.out; have := HZ2.out; have := HZ3.out; omega, by have := HN15.out; have := HN16.out; have := HZ1.out; have := HZ2.out; have := HZ3.out; omega, by have := HN15.out; have := HN16.out; have := HZ1.out; have := HZ2.out; have := HZ3.out; omega, HA3.out, HK3.out, HB3.out, HCS.out.1, HCS.out.2, HO3.out⟩)
    case s15_12 =>
      rw [if_pos (by rfl)]
      refine wpK_alloc 53 rfl half0 (fun W => by first | (go_simp; done) | (go_simp; rfl)) (fun W1 g b z => ?_)
      have HB1 := Lib.hid (below_step HB0.out b)
      have HZ1 : Hid (W0.heap.size + 1 ≤ W1.heap.size) := Lib.hid z
      obtain ⟨hA, hhA⟩ : ∃ h, h = W0.heap.size := ⟨_, rfl⟩
      have HA1 := Lib.hid g
      rw [← hhA] at HA1
      rw [← hhA]
      have HN15 := Lib.hid hhA
      clear g b z hhA
      refine hK.out _ _ (((HB1.out.cell (p := ⟨bk, o + sn * 4 + 2, none⟩) HS0.out.1).trans HS0.out.2)) (fun hHeld1 => ?_)
      clear hK K
      try simp only [Act.put, List.getElem_toArray, List.getElem_cons_succ, List.getElem_cons_zero, List.setIfInBounds_toArray, List.set_cons_zero, List.set_cons_succ]
      refine wpAnyH_ready (rs := [11, 16]) (by kernel_rfl) (by simp) ?_
      refine (AllReadyH.cons (o := ?o11_19) ?h11_19 (fun K hK => ?s11_19) (AllReadyH.cons (o := ?o16_19) ?h16_19 (fun K hK => ?s16_19) AllReadyH.nil))
      case h11_19 => exact rfl
      case h16_19 => exact rfl
      case s11_19 =>
        rw [if_pos (by rfl)]
        go_simp
        refine (HCALL.out _ HB1.out).mono ?_
        rintro e W2 ⟨hcs, E, ea, rfl, c1, c2, b, g⟩
        have HB2 := Lib.hid (below_step HB1.out b)
        have HZ2 : Hid (W1.heap.size ≤ W2.heap.size) := Lib.hid b.size
        have HA2 := Lib.hid (heap_keeps b HA1.out)
        have HCS := Lib.hid (And.intro c1 c2)
        have HO2 := Lib.hid (HOut_lower g HB1.out.size)
        clear c1 c2 g b
        dsimp only
        refine hK.out _ _ (((HB2.out.cell (p := ⟨bk, o + sn * 4 + 2, none⟩) HS0.out.1).trans HS0.out.2)) (fun hHeld2 => ?_)
        clear hK K
        try simp only [Act.put, List.getElem_toArray, List.getElem_cons_succ, List.getElem_cons_zero, List.setIfInBounds_toArray, List.set_cons_zero, List.set_cons_succ]
        refine wpAnyH_take (i := 12) (oi := ?o12_20) (v := .tuple #[.agg hcs, .agg #[.int .i64 E, .int .i64 ea]]) ?h12_20 (by kernel_rfl) (by kernel_rfl) (by kernel_rfl) ?q12_20 ?y12_20 hHeld2 ?r12_20
        case h12_20 => exact rfl
        case q12_20 => exact fun _ _ _ h => h
        case y12_20 => exact Or.inl ⟨by rfl, fun w hw => by first | rfl | (go_simp; done) | (go_simp; kernel_rfl)⟩
        try simp only [Act.put, List.getElem_toArray, List.getElem_cons_succ, List.getElem_cons_zero, List.setIfInBounds_toArray, List.set_cons_zero, List.set_cons_succ]
        refine wpAnyH_take (i := 13) (oi := ?o13_21) (v := .agg hcs) ?h13_21 (by kernel_rfl) (by kernel_rfl) (by kernel_rfl) ?q13_21 ?y13_21 hHeld2 ?r13_21
        case h13_21 => exact rfl
        case q13_21 => exact fun _ _ _ h => h
        case y13_21 => exact Or.inl ⟨by rfl, fun w hw => by first | rfl | (go_simp; done) | (go_simp; kernel_rfl)⟩
        try simp only [Act.put, List.getElem_toArray, List.getElem_cons_succ, List.getElem_cons_zero, List.setIfInBounds_toArray, List.set_cons_zero, List.set_cons_succ]
        refine wpAnyH_take (i := 14) (oi := ?o14_22) (v := .agg #[.int .i64 E, .int .i64 ea]) ?h14_22 (by kernel_rfl) (by kernel_rfl) (by kernel_rfl) ?q14_22 ?y14_22 hHeld2 ?r14_22
        case h14_22 => exact rfl
        case q14_22 => exact fun _ _ _ h => h
        case y14_22 => exact Or.inl ⟨by rfl, fun w hw => by first | rfl | (go_simp; done) | (go_simp; kernel_rfl)⟩
        try simp only [Act.put, List.getElem_toArray, List.getElem_cons_succ, List.getElem_cons_zero, List.setIfInBounds_toArray, List.set_cons_zero, List.set_cons_succ]
        refine wpAnyH_ready (rs := [16]) (by kernel_rfl) (by simp) ?_
        refine (AllReadyH.cons (o := ?o16_23) ?h16_23 (fun K hK => ?s16_23) AllReadyH.nil)
        case h16_23 => exact rfl
        case s16_23 =>
          rw [if_pos (by rfl)]
          refine wpK_alloc 29 rfl #[.int .i64 0, .int .i64 0] (fun W => by first | (go_simp; done) | (go_simp; rfl)) (fun W3 g b z => ?_)
          have HB3 := Lib.hid (below_step HB2.out b)
          have HZ3 : Hid (W2.heap.size + 1 ≤ W3.heap.size) := Lib.hid z
          have HA3 := Lib.hid (heap_keeps b HA2.out)
          have HO3 := Lib.hid (HOut_move HO2.out (Nat.le_refl _) b)
          obtain ⟨hB, hhB⟩ : ∃ h, h = W2.heap.size := ⟨_, rfl⟩
          have HK3 := Lib.hid g
          rw [← hhB] at HK3
          rw [← hhB]
          have HN16 := Lib.hid hhB
          clear g b z hhB
          refine hK.out _ _ (((HB3.out.cell (p := ⟨bk, o + sn * 4 + 2, none⟩) HS0.out.1).trans HS0.out.2)) (fun hHeld3 => ?_)
          clear hK K
          try simp only [Act.put, List.getElem_toArray, List.getElem_cons_succ, List.getElem_cons_zero, List.setIfInBounds_toArray, List.set_cons_zero, List.set_cons_succ]
          exact wpAnyH_listed (by kernel_rfl) (cont hA hB hcs E ea W3 ⟨by have := HN15.out; have := HN16.out; have := HZ1.out; have := HZ2.out; have := HZ3.out; omega, by have := HN15.out; have := HN16.out; have := HZ1.out; have := HZ2.out; have := HZ3.out; omega, by have := HN15.out; have := HN16.out; have := HZ1.out; have := HZ2.out; have := HZ3.out; omega, HA3.out, HK3.out, HB3.out, HCS.out.1, HCS.out.2, HO3.out⟩)
      case s16_19 =>
        rw [if_pos (by rfl)]
        refine wpK_alloc 29 rfl #[.int .i64 0, .int .i64 0] (fun W => by first | (go_simp; done) | (go_simp; rfl)) (fun W2 g b z => ?_)
        have HB2 := Lib.hid (below_step HB1.out b)
        have HZ2 : Hid (W1.heap.size + 1 ≤ W2.heap.size) := Lib.hid z
        have HA2 := Lib.hid (heap_keeps b HA1.out)
        obtain ⟨hB, hhB⟩ : ∃ h, h = W1.heap.size := ⟨_, rfl⟩
        have HK2 := Lib.hid g
        rw [← hhB] at HK2
        rw [← hhB]
        have HN16 := Lib.hid hhB
        clear g b z hhB
        refine hK.out _ _ (((HB2.out.cell (p := ⟨bk, o + sn * 4 + 2, none⟩) HS0.out.1).trans HS0.out.2)) (fun hHeld2 => ?_)
        clear hK K
        try simp only [Act.put, List.getElem_toArray, List.getElem_cons_succ, List.getElem_cons_zero, List.setIfInBounds_toArray, List.set_cons_zero, List.set_cons_succ]
        refine wpAnyH_ready (rs := [11]) (by kernel_rfl) (by simp) ?_
        refine (AllReadyH.cons (o := ?o11_24) ?h11_24 (fun K hK => ?s11_24) AllReadyH.nil)
        case h11_24 => exact rfl
        case s11_24 =>
          rw [if_pos (by rfl)]
          go_simp
          refine (HCALL.out _ HB2.out).mono ?_
          rintro e W3 ⟨hcs, E, ea, rfl, c1, c2, b, g⟩
          have HB3 := Lib.hid (below_step HB2.out b)
          have HZ3 : Hid (W2.heap.size ≤ W3.heap.size) := Lib.hid b.size
          have HA3 := Lib.hid (heap_keeps b HA2.out)
          have HK3 := Lib.hid (heap_keeps b HK2.out)
          have HCS := Lib.hid (And.intro c1 c2)
          have HO3 := Lib.hid (HOut_lower g HB2.out.size)
          clear c1 c2 g b
          dsimp only
          refine hK.out _ _ (((HB3.out.cell (p := ⟨bk, o + sn * 4 + 2, none⟩) HS0.out.1).trans HS0.out.2)) (fun hHeld3 => ?_)
          clear hK K
          try simp only [Act.put, List.getElem_toArray, List.getElem_cons_succ, List.getElem_cons_zero, List.setIfInBounds_toArray, List.set_cons_zero, List.set_cons_succ]
          refine wpAnyH_take (i := 12) (oi := ?o12_25) (v := .tuple #[.agg hcs, .agg #[.int .i64 E, .int .i64 ea]]) ?h12_25 (by kernel_rfl) (by kernel_rfl) (by kernel_rfl) ?q12_25 ?y12_25 hHeld3 ?r12_25
          case h12_25 => exact rfl
          case q12_25 => exact fun _ _ _ h => h
          case y12_25 => exact Or.inl ⟨by rfl, fun w hw => by first | rfl | (go_simp; done) | (go_simp; kernel_rfl)⟩
          try simp only [Act.put, List.getElem_toArray, List.getElem_cons_succ, List.getElem_cons_zero, List.setIfInBounds_toArray, List.set_cons_zero, List.set_cons_succ]
          refine wpAnyH_take (i := 13) (oi := ?o13_26) (v := .agg hcs) ?h13_26 (by kernel_rfl) (by kernel_rfl) (by kernel_rfl) ?q13_26 ?y13_26 hHeld3 ?r13_26
          case h13_26 => exact rfl
          case q13_26 => exact fun _ _ _ h => h
          case y13_26 => exact Or.inl ⟨by rfl, fun w hw => by first | rfl | (go_simp; done) | (go_simp; kernel_rfl)⟩
          try simp only [Act.put, List.getElem_toArray, List.getElem_cons_succ, List.getElem_cons_zero, List.setIfInBounds_toArray, List.set_cons_zero, List.set_cons_succ]
          refine wpAnyH_take (i := 14) (oi := ?o14_27) (v := .agg #[.int .i64 E, .int .i64 ea]) ?h14_27 (by kernel_rfl) (by kernel_rfl) (by kernel_rfl) ?q14_27 ?y14_27 hHeld3 ?r14_27
          case h14_27 => exact rfl
          case q14_27 => exact fun _ _ _ h => h
          case y14_27 => exact Or.inl ⟨by rfl, fun w hw => by first | rfl | (go_simp; done) | (go_simp; kernel_rfl)⟩
          try simp only [Act.put, List.getElem_toArray, List.getElem_cons_succ, List.getElem_cons_zero, List.setIfInBounds_toArray, List.set_cons_zero, List.set_cons_succ]
          exact wpAnyH_listed (by kernel_rfl) (cont hA hB hcs E ea W3 ⟨by have := HN15.out; have := HN16.out; have := HZ1.out; have := HZ2.out; have := HZ3.out; omega, by have := HN15.out; have := HN16.out; have := HZ1.out; have := HZ2.out; have := HZ3.out; omega, by have := HN15.out; have := HN16.out; have := HZ1.out; have := HZ2.out; have := HZ3.out; omega, HA3.out, HK3.out, HB3.out, HCS.out.1, HCS.out.2, HO3.out⟩)
    case s16_12 =>
      rw [if_pos (by rfl)]
      refine wpK_alloc 29 rfl #[.int .i64 0, .int .i64 0] (fun W => by first | (go_simp; done) | (go_simp; rfl)) (fun W1 g b z => ?_)
      have HB1 := Lib.hid (below_step HB0.out b)
      have HZ1 : Hid (W0.heap.size + 1 ≤ W1.heap.size) := Lib.hid z
      obtain ⟨hB, hhB⟩ : ∃ h, h = W0.heap.size := ⟨_, rfl⟩
      have HK1 := Lib.hid g
      rw [← hhB] at HK1
      rw [← hhB]
      have HN16 := Lib.hid hhB
      clear g b z hhB
      refine hK.out _ _ (((HB1.out.cell (p := ⟨bk, o + sn * 4 + 2, none⟩) HS0.out.1).trans HS0.out.2)) (fun hHeld1 => ?_)
      clear hK K
      try simp only [Act.put, List.getElem_toArray, List.getElem_cons_succ, List.getElem_cons_zero, List.setIfInBounds_toArray, List.set_cons_zero, List.set_cons_succ]
      refine wpAnyH_ready (rs := [11, 15]) (by kernel_rfl) (by simp) ?_
      refine (AllReadyH.cons (o := ?o11_28) ?h11_28 (fun K hK => ?s11_28) (AllReadyH.cons (o := ?o15_28) ?h15_28 (fun K hK => ?s15_28) AllReadyH.nil))
      case h11_28 => exact rfl
      case h15_28 => exact rfl
      case s11_28 =>
        rw [if_pos (by rfl)]
        go_simp
        refine (HCALL.out _ HB1.out).mono ?_
        rintro e W2 ⟨hcs, E, ea, rfl, c1, c2, b, g⟩
        have HB2 := Lib.hid (below_step HB1.out b)
        have HZ2 : Hid (W1.heap.size ≤ W2.heap.size) := Lib.hid b.size
        have HK2 := Lib.hid (heap_keeps b HK1.out)
        have HCS := Lib.hid (And.intro c1 c2)
        have HO2 := Lib.hid (HOut_lower g HB1.out.size)
        clear c1 c2 g b
        dsimp only
        refine hK.out _ _ (((HB2.out.cell (p := ⟨bk, o + sn * 4 + 2, none⟩) HS0.out.1).trans HS0.out.2)) (fun hHeld2 => ?_)
        clear hK K
        try simp only [Act.put, List.getElem_toArray, List.getElem_cons_succ, List.getElem_cons_zero, List.setIfInBounds_toArray, List.set_cons_zero, List.set_cons_succ]
        refine wpAnyH_take (i := 12) (oi := ?o12_29) (v := .tuple #[.agg hcs, .agg #[.int .i64 E, .int .i64 ea]]) ?h12_29 (by kernel_rfl) (by kernel_rfl) (by kernel_rfl) ?q12_29 ?y12_29 hHeld2 ?r12_29
        case h12_29 => exact rfl
        case q12_29 => exact fun _ _ _ h => h
        case y12_29 => exact Or.inl ⟨by rfl, fun w hw => by first | rfl | (go_simp; done) | (go_simp; kernel_rfl)⟩
        try simp only [Act.put, List.getElem_toArray, List.getElem_cons_succ, List.getElem_cons_zero, List.setIfInBounds_toArray, List.set_cons_zero, List.set_cons_succ]
        refine wpAnyH_take (i := 13) (oi := ?o13_30) (v := .agg hcs) ?h13_30 (by kernel_rfl) (by kernel_rfl) (by kernel_rfl) ?q13_30 ?y13_30 hHeld2 ?r13_30
        case h13_30 => exact rfl
        case q13_30 => exact fun _ _ _ h => h
        case y13_30 => exact Or.inl ⟨by rfl, fun w hw => by first | rfl | (go_simp; done) | (go_simp; kernel_rfl)⟩
        try simp only [Act.put, List.getElem_toArray, List.getElem_cons_succ, List.getElem_cons_zero, List.setIfInBounds_toArray, List.set_cons_zero, List.set_cons_succ]
        refine wpAnyH_take (i := 14) (oi := ?o14_31) (v := .agg #[.int .i64 E, .int .i64 ea]) ?h14_31 (by kernel_rfl) (by kernel_rfl) (by kernel_rfl) ?q14_31 ?y14_31 hHeld2 ?r14_31
        case h14_31 => exact rfl
        case q14_31 => exact fun _ _ _ h => h
        case y14_31 => exact Or.inl ⟨by rfl, fun w hw => by first | rfl | (go_simp; done) | (go_simp; kernel_rfl)⟩
        try simp only [Act.put, List.getElem_toArray, List.getElem_cons_succ, List.getElem_cons_zero, List.setIfInBounds_toArray, List.set_cons_zero, List.set_cons_succ]
        refine wpAnyH_ready (rs := [15]) (by kernel_rfl) (by simp) ?_
        refine (AllReadyH.cons (o := ?o15_32) ?h15_32 (fun K hK => ?s15_32) AllReadyH.nil)
        case h15_32 => exact rfl
        case s15_32 =>
          rw [if_pos (by rfl)]
          refine wpK_alloc 53 rfl half0 (fun W => by first | (go_simp; done) | (go_simp; rfl)) (fun W3 g b z => ?_)
          have HB3 := Lib.hid (below_step HB2.out b)
          have HZ3 : Hid (W2.heap.size + 1 ≤ W3.heap.size) := Lib.hid z
          have HK3 := Lib.hid (heap_keeps b HK2.out)
          have HO3 := Lib.hid (HOut_move HO2.out (Nat.le_refl _) b)
          obtain ⟨hA, hhA⟩ : ∃ h, h = W2.heap.size := ⟨_, rfl⟩
          have HA3 := Lib.hid g
          rw [← hhA] at HA3
          rw [← hhA]
          have HN15 := Lib.hid hhA
          clear g b z hhA
          refine hK.out _ _ (((HB3.out.cell (p := ⟨bk, o + sn * 4 + 2, none⟩) HS0.out.1).trans HS0.out.2)) (fun hHeld3 => ?_)
          clear hK K
          try simp only [Act.put, List.getElem_toArray, List.getElem_cons_succ, List.getElem_cons_zero, List.setIfInBounds_toArray, List.set_cons_zero, List.set_cons_succ]
          exact wpAnyH_listed (by kernel_rfl) (cont hA hB hcs E ea W3 ⟨by have := HN15.out; have := HN16.out; have := HZ1.out; have := HZ2.out; have := HZ3.out; omega, by have := HN15.out; have := HN16.out; have := HZ1.out; have := HZ2.out; have := HZ3.out; omega, by have := HN15.out; have := HN16.out; have := HZ1.out; have := HZ2.out; have := HZ3.out; omega, HA3.out, HK3.out, HB3.out, HCS.out.1, HCS.out.2, HO3.out⟩)
      case s15_28 =>
        rw [if_pos (by rfl)]
        refine wpK_alloc 53 rfl half0 (fun W => by first | (go_simp; done) | (go_simp; rfl)) (fun W2 g b z => ?_)
        have HB2 := Lib.hid (below_step HB1.out b)
        have HZ2 : Hid (W1.heap.size + 1 ≤ W2.heap.size) := Lib.hid z
        have HK2 := Lib.hid (heap_keeps b HK1.out)
        obtain ⟨hA, hhA⟩ : ∃ h, h = W1.heap.size := ⟨_, rfl⟩
        have HA2 := Lib.hid g
        rw [← hhA] at HA2
        rw [← hhA]
        have HN15 := Lib.hid hhA
        clear g b z hhA
        refine hK.out _ _ (((HB2.out.cell (p := ⟨bk, o + sn * 4 + 2, none⟩) HS0.out.1).trans HS0.out.2)) (fun hHeld2 => ?_)
        clear hK K
        try simp only [Act.put, List.getElem_toArray, List.getElem_cons_succ, List.getElem_cons_zero, List.setIfInBounds_toArray, List.set_cons_zero, List.set_cons_succ]
        refine wpAnyH_ready (rs := [11]) (by kernel_rfl) (by simp) ?_
        refine (AllReadyH.cons (o := ?o11_33) ?h11_33 (fun K hK => ?s11_33) AllReadyH.nil)
        case h11_33 => exact rfl
        case s11_33 =>
          rw [if_pos (by rfl)]
          go_simp
          refine (HCALL.out _ HB2.out).mono ?_
          rintro e W3 ⟨hcs, E, ea, rfl, c1, c2, b, g⟩
          have HB3 := Lib.hid (below_step HB2.out b)
          have HZ3 : Hid (W2.heap.size ≤ W3.heap.size) := Lib.hid b.size
          have HK3 := Lib.hid (heap_keeps b HK2.out)
          have HA3 := Lib.hid (heap_keeps b HA2.out)
          have HCS := Lib.hid (And.intro c1 c2)
          have HO3 := Lib.hid (HOut_lower g HB2.out.size)
          clear c1 c2 g b
          dsimp only
          refine hK.out _ _ (((HB3.out.cell (p := ⟨bk, o + sn * 4 + 2, none⟩) HS0.out.1).trans HS0.out.2)) (fun hHeld3 => ?_)
          clear hK K
          try simp only [Act.put, List.getElem_toArray, List.getElem_cons_succ, List.getElem_cons_zero, List.setIfInBounds_toArray, List.set_cons_zero, List.set_cons_succ]
          refine wpAnyH_take (i := 12) (oi := ?o12_34) (v := .tuple #[.agg hcs, .agg #[.int .i64 E, .int .i64 ea]]) ?h12_34 (by kernel_rfl) (by kernel_rfl) (by kernel_rfl) ?q12_34 ?y12_34 hHeld3 ?r12_34
          case h12_34 => exact rfl
          case q12_34 => exact fun _ _ _ h => h
          case y12_34 => exact Or.inl ⟨by rfl, fun w hw => by first | rfl | (go_simp; done) | (go_simp; kernel_rfl)⟩
          try simp only [Act.put, List.getElem_toArray, List.getElem_cons_succ, List.getElem_cons_zero, List.setIfInBounds_toArray, List.set_cons_zero, List.set_cons_succ]
          refine wpAnyH_take (i := 13) (oi := ?o13_35) (v := .agg hcs) ?h13_35 (by kernel_rfl) (by kernel_rfl) (by kernel_rfl) ?q13_35 ?y13_35 hHeld3 ?r13_35
          case h13_35 => exact rfl
          case q13_35 => exact fun _ _ _ h => h
          case y13_35 => exact Or.inl ⟨by rfl, fun w hw => by first | rfl | (go_simp; done) | (go_simp; kernel_rfl)⟩
          try simp only [Act.put, List.getElem_toArray, List.getElem_cons_succ, List.getElem_cons_zero, List.setIfInBounds_toArray, List.set_cons_zero, List.set_cons_succ]
          refine wpAnyH_take (i := 14) (oi := ?o14_36) (v := .agg #[.int .i64 E, .int .i64 ea]) ?h14_36 (by kernel_rfl) (by kernel_rfl) (by kernel_rfl) ?q14_36 ?y14_36 hHeld3 ?r14_36
          case h14_36 => exact rfl
          case q14_36 => exact fun _ _ _ h => h
          case y14_36 => exact Or.inl ⟨by rfl, fun w hw => by first | rfl | (go_simp; done) | (go_simp; kernel_rfl)⟩
          try simp only [Act.put, List.getElem_toArray, List.getElem_cons_succ, List.getElem_cons_zero, List.setIfInBounds_toArray, List.set_cons_zero, List.set_cons_succ]
          exact wpAnyH_listed (by kernel_rfl) (cont hA hB hcs E ea W3 ⟨by have := HN15.out; have := HN16.out; have := HZ1.out; have := HZ2.out; have := HZ3.out; omega, by have := HN15.out; have := HN16.out; have := HZ1.out; have := HZ2.out; have := HZ3.out; omega, by have := HN15.out; have := HN16.out; have := HZ1.out; have := HZ2.out; have := HZ3.out; omega, HA3.out, HK3.out, HB3.out, HCS.out.1, HCS.out.2, HO3.out⟩)
  · intro hb vb hcs E ea W3 hF
    dsimp only
    obtain ⟨n1, g1, g2, hA, hB, b3, cz, c1, ho⟩ := hF
    have hc3 := (HC.out.step (Below.refl _ _).drew).step b3
    have n2 := blk_lt HC.out.st.res
    have n3 := blk_lt HC.out.st.flt
    have n4 := blk_lt HC.out.hp
    have n5 : bk < W.heap.size := HS0.out.1
    have n6 : w.heap.size ≤ W.heap.size := HC.out.st.below.size
    have g1' : W.heap.size ≤ hb := g1
    have g2' : W.heap.size ≤ vb := g2
    have HC3 := Lib.hid hc3
    have HN : Hid (vb ≠ rb ∧ vb ≠ fb) := Lib.hid ⟨by omega, by omega⟩
    have HX : Hid (w.heap.size ≤ hb ∧ rb ≠ hb ∧ fb ≠ hb ∧ pb ≠ hb ∧ bk ≠ hb ∧ bk ≠ vb ∧ hb ≠ vb ∧ w.heap.size ≤ vb ∧ pb ≠ vb) := Lib.hid ⟨by omega, by omega, by omega, by omega, by omega, by omega, n1, by omega, by omega⟩
    have HA := Lib.hid hA
    have HB := Lib.hid hB
    have HK0 : Hid (W3.cell? ⟨bk, o + sn * 4 + 2, none⟩ = some (.int .i64 ta)) := Lib.hid ((b3.cell (p := ⟨bk, o + sn * 4 + 2, none⟩) HS0.out.1).trans HS0.out.2)
    have HZ := Lib.hid cz
    have HONE := Lib.hid c1
    have HO := Lib.hid (HOut_lower (w0 := w) ho n6)
    clear hc3 n1 n2 n3 n4 n5 n6 g1 g2 g1' g2' hA hB b3 cz c1 ho
    refine wpAnyH_ready (rs := [17]) (by kernel_rfl) (by simp) ?_
    refine AllReadyH.cons (o := ?o17_37) ?h17_37 (fun K17 hK => ?s17_37) AllReadyH.nil
    case h17_37 => exact rfl
    rw [if_pos (by rfl)]
    refine wpK_store _ _ _ rfl hb 0 (.agg hcs) hcs rfl rfl rfl _ _ HA.out (by rw [HZ.out]; kernel_rfl) (by rw [HZ.out]; exact Nat.le_of_ble_eq_true (by kernel_rfl)) HONE.out _ (setAll_full HZ.out) (fun W4 g p' => ?_)
    have HG4 := Lib.hid g
    have HC4 := Lib.hid (HC3.out.other HA.out (by decide) p' HX.out.1 HX.out.2.1 HX.out.2.2.1 HX.out.2.2.2.1)
    have HO4 := Lib.hid (HOut_put HO.out HA.out (by decide) p')
    have HB4 := Lib.hid (p'.other HB.out HX.out.2.2.2.2.2.2.1.symm)
    have HK4 : Hid (W4.cell? ⟨bk, o + sn * 4 + 2, none⟩ = some (.int .i64 ta)) := Lib.hid (put_cell p' HX.out.2.2.2.2.1 HK0.out)
    clear g p'
    refine hK.out _ _ HK4.out (fun hHeld4 => ?_)
    clear hK K17
    try simp only [Act.put, List.getElem_toArray, List.getElem_cons_succ, List.getElem_cons_zero, List.setIfInBounds_toArray, List.set_cons_zero, List.set_cons_succ]
    refine wpAnyH_ready (rs := [18]) (by kernel_rfl) (by simp) ?_
    refine AllReadyH.cons (o := ?o18_38) ?h18_38 (fun K18 hK => ?s18_38) AllReadyH.nil
    case h18_38 => exact rfl
    rw [if_pos (by rfl)]
    refine wpK_store _ _ _ rfl vb 0 (.agg #[.int .i64 E, .int .i64 ea]) #[.int .i64 E, .int .i64 ea] rfl rfl rfl _ _ HB4.out (by kernel_rfl) (Nat.le_of_ble_eq_true (by kernel_rfl)) (all_one2 _ _ rfl rfl) _ (set_flt _ _ _ _) (fun WV g p' => ?_)
    have HV := Lib.hid g
    have HC5 := Lib.hid (HC4.out.other HB4.out (by decide) p' HX.out.2.2.2.2.2.2.2.1 HN.out.1.symm HN.out.2.symm HX.out.2.2.2.2.2.2.2.2)
    have HO5 := Lib.hid (HOut_put HO4.out HB4.out (by decide) p')
    have HG5 := Lib.hid (p'.other HG4.out HX.out.2.2.2.2.2.2.1)
    have HK5 : Hid (WV.cell? ⟨bk, o + sn * 4 + 2, none⟩ = some (.int .i64 ta)) := Lib.hid (put_cell p' HX.out.2.2.2.2.2.1 HK4.out)
    clear g p'
    refine hK.out _ _ HK5.out (fun hHeld5 => ?_)
    clear hK K18
    try simp only [Act.put, List.getElem_toArray, List.getElem_cons_succ, List.getElem_cons_zero, List.setIfInBounds_toArray, List.set_cons_zero, List.set_cons_succ]
    refine wpAnyH_done (by kernel_rfl) ?_ _
    clear hHeld4 hHeld5 hHeld HA HB HB4 HC4 HC3 HO HO4 HG4 HK0 HK4 HK5 HC HCALL HB0 HS0
    have e0 : WV.cell? ⟨vb, 0, none⟩ = some (.int .i64 E) := (blk_cell HV.out 0).trans rfl
    cases r0 with
    | none =>
      have HE : Hid (E ≠ 0) := Lib.hid HO5.out
      have hrn : r = none := HRR.out
      subst hrn
      have t2 : (E != 0) = true := bne_iff_ne.2 HE.out
      have HS := Lib.hid HC5.out.st
      go_wp2
      have HD : Hid (WV.drew.heap[vb]? = some (.cells #[.int .i64 E, .int .i64 ea] 29 (0, 0))) := Lib.hid HV.out
      refine wp_region_held_drew (S := fun w' => w'.rangeAt vb 0 (#[.int .i64 E, .int .i64 ea] : Array Value).toList) (by kernel_rfl) (row_range HD.out) (fun hHeld => ?_)
      refine wpAnyH_take (i := 0) (oi := ?o0_39) (v := .agg (patN N.np0)) ?h0_39 (by kernel_rfl) (by kernel_rfl) (by kernel_rfl) ?q0_39 ?y0_39 hHeld ?r0_39
      case h0_39 => exact rfl
      case q0_39 => exact fun _ _ _ h => h
      case y0_39 => exact Or.inl ⟨by rfl, fun w hw => by first | rfl | (go_simp; done) | (go_simp; kernel_rfl)⟩
      try simp only [Act.put, List.getElem_toArray, List.getElem_cons_succ, List.getElem_cons_zero, List.setIfInBounds_toArray, List.set_cons_zero, List.set_cons_succ]
      refine wpAnyH_take (i := 1) (oi := ?o1_40) (v := .agg #[.int .i64 E, .int .i64 ea]) ?h1_40 (by kernel_rfl) (by kernel_rfl) (by kernel_rfl) ?q1_40 ?y1_40 hHeld ?r1_40
      case h1_40 => exact rfl
      case q1_40 => exact fun _ _ _ h => h
      case y1_40 => exact yields_row (by rfl) _ _ rfl _ rfl #[.int .i64 E, .int .i64 ea] _ (fun _ h => h) Try.underlying29 rfl (by kernel_rfl)
      try simp only [Act.put, List.getElem_toArray, List.getElem_cons_succ, List.getElem_cons_zero, List.setIfInBounds_toArray, List.set_cons_zero, List.set_cons_succ]
      refine wpAnyH_ready (rs := [2]) (by kernel_rfl) (by simp) ?_
      refine AllReadyH.cons (o := ?o2_41) ?h2_41 (fun K2 hK => ?s2_41) AllReadyH.nil
      case h2_41 => exact rfl
      rw [if_pos (by rfl)]
      refine wpK_store _ _ _ rfl rb 0 (.agg (patN N.np0)) (patN N.np0) rfl rfl rfl _ _ (show WV.drew.heap[rb]? = _ from HS.out.res) (by kernel_rfl) (Nat.le_of_ble_eq_true (by kernel_rfl)) (patN_one _) _ (set_pat0 _) (fun W2 g p' => ?_)
      have HG2 := Lib.hid g
      have HQ2 := Lib.hid p'
      have HD2 := Lib.hid (p'.other HD.out HN.out.1)
      have HF2 := Lib.hid (p'.other (show WV.drew.heap[fb]? = _ from HS.out.flt) HS.out.ne.symm)
      clear g p'
      refine hK.out _ _ (row_range HD2.out) (fun hHeld2 => ?_)
      clear hK K2
      try simp only [Act.put, List.getElem_toArray, List.getElem_cons_succ, List.getElem_cons_zero, List.setIfInBounds_toArray, List.set_cons_zero, List.set_cons_succ]
      refine wpAnyH_ready (rs := [3]) (by kernel_rfl) (by simp) ?_
      refine AllReadyH.cons (o := ?o3_42) ?h3_42 (fun K3 hK => ?s3_42) AllReadyH.nil
      case h3_42 => exact rfl
      rw [if_pos (by rfl)]
      refine wpK_store _ _ _ rfl fb 0 (.agg #[.int .i64 E, .int .i64 ea]) #[.int .i64 E, .int .i64 ea] rfl rfl rfl _ _ HF2.out (by kernel_rfl) (Nat.le_of_ble_eq_true (by kernel_rfl)) (all_one2 _ _ rfl rfl) _ (set_flt _ _ _ _) (fun W3 g p' => ?_)
      have HG3 := Lib.hid g
      have HQ3 := Lib.hid p'
      have HR3 := Lib.hid (p'.other HG2.out HS.out.ne)
      have HD3 := Lib.hid (p'.other HD2.out HN.out.2)
      clear g p'
      refine hK.out _ _ (row_range HD3.out) (fun hHeld3 => ?_)
      clear hK K3
      try simp only [Act.put, List.getElem_toArray, List.getElem_cons_succ, List.getElem_cons_zero, List.setIfInBounds_toArray, List.set_cons_zero, List.set_cons_succ]
      refine wpAnyH_done (by kernel_rfl) ?_ _
      go_wp2
      refine bodyPost_ret (results_cells2 rfl _ _ rb fb 26 29 (patN N.np0) #[.int .i64 E, .int .i64 ea] (0, 0) (0, 0) _ _ rfl HR3.out Try.underlying26 rfl (by kernel_rfl) rfl HG3.out Try.underlying29 rfl (by kernel_rfl)) rfl ?_
      exact comp_out E ea HE.out (HQ3.out.below (HQ2.out.below HS.out.below.drew HS.out.rlo) HS.out.flo) _ rfl
    | some b =>
      obtain ⟨hE, u0, u1, hhc, r0, r1⟩ := HO5.out
      subst hE
      have hrs : r = c17 { q with hasNeg := true, npre := b.pre, nsuf := b.suf } := HRR.out
      obtain ⟨A0, c0, e1⟩ := Kd.R_slice r0
      obtain ⟨A1, c1, e2⟩ := Kd.R_slice r1
      subst e1 e2
      have HRS := Lib.hid hrs
      have HR0 := Lib.hid r0
      have HR1 := Lib.hid r1
      have k0 : WV.cell? ⟨hb, 0, none⟩ = some (.slice A0 b.pre.length c0) := by rw [blk_cell HG5.out 0, hhc]; rfl
      have k1 : WV.cell? ⟨hb, 1, none⟩ = some (.slice A1 b.suf.length c1) := by rw [blk_cell HG5.out 1, hhc]; rfl
      have HKK := Lib.hid (And.intro k0 k1)
      clear hrs r0 r1 hhc k0 k1
      go_wp2
      refine wp_region_held_drew (S := fun w' => w'.cell? ⟨hb, 0, none⟩ = some (.slice A0 b.pre.length c0) ∧ w'.cell? ⟨hb, 1, none⟩ = some (.slice A1 b.suf.length c1)) (by kernel_rfl) HKK.out (fun hHeld => ?_)
      refine wpAnyH_take (i := 0) (oi := ?o0_43) (v := .pointer (some ⟨hb, 0, none⟩)) ?h0_43 (by kernel_rfl) (by kernel_rfl) (by kernel_rfl) ?q0_43 ?y0_43 hHeld ?r0_43
      case h0_43 => exact rfl
      case q0_43 => exact fun _ _ _ h => h
      case y0_43 => exact Or.inl ⟨by rfl, fun w hw => by first | rfl | (go_simp; done) | (go_simp; kernel_rfl)⟩
      try simp only [Act.put, List.getElem_toArray, List.getElem_cons_succ, List.getElem_cons_zero, List.setIfInBounds_toArray, List.set_cons_zero, List.set_cons_succ]
      refine wpAnyH_take (i := 1) (oi := ?o1_44) (v := .slice A0 b.pre.length c0) ?h1_44 (by kernel_rfl) (by kernel_rfl) (by kernel_rfl) ?q1_44 ?y1_44 hHeld ?r1_44
      case h1_44 => exact rfl
      case q1_44 => exact fun _ _ _ h => h
      case y1_44 => exact Or.inl ⟨by rfl, fun w hw => by (obtain ⟨hw, hw2⟩ := hw; go_simp)⟩
      try simp only [Act.put, List.getElem_toArray, List.getElem_cons_succ, List.getElem_cons_zero, List.setIfInBounds_toArray, List.set_cons_zero, List.set_cons_succ]
      refine wpAnyH_take (i := 2) (oi := ?o2_45) (v := .pointer (some ⟨hb, 1, none⟩)) ?h2_45 (by kernel_rfl) (by kernel_rfl) (by kernel_rfl) ?q2_45 ?y2_45 hHeld ?r2_45
      case h2_45 => exact rfl
      case q2_45 => exact fun _ _ _ h => h
      case y2_45 => exact Or.inl ⟨by rfl, fun w hw => by first | rfl | (go_simp; done) | (go_simp; kernel_rfl)⟩
      try simp only [Act.put, List.getElem_toArray, List.getElem_cons_succ, List.getElem_cons_zero, List.setIfInBounds_toArray, List.set_cons_zero, List.set_cons_succ]
      refine wpAnyH_take (i := 3) (oi := ?o3_46) (v := .slice A1 b.suf.length c1) ?h3_46 (by kernel_rfl) (by kernel_rfl) (by kernel_rfl) ?q3_46 ?y3_46 hHeld ?r3_46
      case h3_46 => exact rfl
      case q3_46 => exact fun _ _ _ h => h
      case y3_46 => exact Or.inl ⟨by rfl, fun w hw => by (obtain ⟨hw, hw2⟩ := hw; go_simp)⟩
      try simp only [Act.put, List.getElem_toArray, List.getElem_cons_succ, List.getElem_cons_zero, List.setIfInBounds_toArray, List.set_cons_zero, List.set_cons_succ]
      refine wpAnyH_take (i := 4) (oi := ?o4_47) (v := .pointer (some ⟨pb, 2, none⟩)) ?h4_47 (by kernel_rfl) (by kernel_rfl) (by kernel_rfl) ?q4_47 ?y4_47 hHeld ?r4_47
      case h4_47 => exact rfl
      case q4_47 => exact fun _ _ _ h => h
      case y4_47 => exact Or.inl ⟨by rfl, fun w hw => by first | rfl | (go_simp; done) | (go_simp; kernel_rfl)⟩
      try simp only [Act.put, List.getElem_toArray, List.getElem_cons_succ, List.getElem_cons_zero, List.setIfInBounds_toArray, List.set_cons_zero, List.set_cons_succ]
      refine wpAnyH_ready (rs := [5]) (by kernel_rfl) (by simp) ?_
      refine AllReadyH.cons (o := ?o5_48) ?h5_48 (fun K5 hK => ?s5_48) AllReadyH.nil
      case h5_48 => exact rfl
      rw [if_pos (by rfl)]
      refine wpK_store _ _ _ rfl pb 2 (.bool true) #[.bool true] rfl rfl rfl _ _ (show WV.drew.heap[pb]? = _ from HC5.out.hp) (by kernel_rfl) (Nat.le_of_ble_eq_true (by kernel_rfl)) (all_one1 _ rfl) _ (set_p2 _ _ _ _ _ _ _ _ _ _) (fun W5 g p' => ?_)
      have HG5 := Lib.hid g
      have HQ5 := Lib.hid p'
      have HK6 := Lib.hid (And.intro (put_cell p' HX.out.2.2.2.1.symm HKK.out.1) (put_cell p' HX.out.2.2.2.1.symm HKK.out.2))
      clear g p'
      refine hK.out _ _ HK6.out (fun hHeld6 => ?_)
      clear hK K5
      try simp only [Act.put, List.getElem_toArray, List.getElem_cons_succ, List.getElem_cons_zero, List.setIfInBounds_toArray, List.set_cons_zero, List.set_cons_succ]
      refine wpAnyH_take (i := 6) (oi := ?o6_49) (v := .pointer (some ⟨pb, 3, none⟩)) ?h6_49 (by kernel_rfl) (by kernel_rfl) (by kernel_rfl) ?q6_49 ?y6_49 hHeld6 ?r6_49
      case h6_49 => exact rfl
      case q6_49 => exact fun _ _ _ h => h
      case y6_49 => exact Or.inl ⟨by rfl, fun w hw => by first | rfl | (go_simp; done) | (go_simp; kernel_rfl)⟩
      try simp only [Act.put, List.getElem_toArray, List.getElem_cons_succ, List.getElem_cons_zero, List.setIfInBounds_toArray, List.set_cons_zero, List.set_cons_succ]
      refine wpAnyH_ready (rs := [7]) (by kernel_rfl) (by simp) ?_
      refine AllReadyH.cons (o := ?o7_50) ?h7_50 (fun K7 hK => ?s7_50) AllReadyH.nil
      case h7_50 => exact rfl
      rw [if_pos (by rfl)]
      refine wpK_store _ _ _ rfl pb 3 (.slice A0 b.pre.length c0) #[.slice A0 b.pre.length c0] rfl rfl rfl _ _ HG5.out (by kernel_rfl) (Nat.le_of_ble_eq_true (by kernel_rfl)) (all_one1 _ rfl) _ (set_p3 _ _ _ _ _ _ _ _ _ _) (fun W7 g p' => ?_)
      have HG7 := Lib.hid g
      have HQ7 := Lib.hid p'
      have HK8 := Lib.hid (And.intro (put_cell p' HX.out.2.2.2.1.symm HK6.out.1) (put_cell p' HX.out.2.2.2.1.symm HK6.out.2))
      clear g p'
      refine hK.out _ _ HK8.out (fun hHeld8 => ?_)
      clear hK K7
      try simp only [Act.put, List.getElem_toArray, List.getElem_cons_succ, List.getElem_cons_zero, List.setIfInBounds_toArray, List.set_cons_zero, List.set_cons_succ]
      refine wpAnyH_take (i := 8) (oi := ?o8_51) (v := .pointer (some ⟨pb, 4, none⟩)) ?h8_51 (by kernel_rfl) (by kernel_rfl) (by kernel_rfl) ?q8_51 ?y8_51 hHeld8 ?r8_51
      case h8_51 => exact rfl
      case q8_51 => exact fun _ _ _ h => h
      case y8_51 => exact Or.inl ⟨by rfl, fun w hw => by first | rfl | (go_simp; done) | (go_simp; kernel_rfl)⟩
      try simp only [Act.put, List.getElem_toArray, List.getElem_cons_succ, List.getElem_cons_zero, List.setIfInBounds_toArray, List.set_cons_zero, List.set_cons_succ]
      refine wpAnyH_ready (rs := [9]) (by kernel_rfl) (by simp) ?_
      refine AllReadyH.cons (o := ?o9_52) ?h9_52 (fun K9 hK => ?s9_52) AllReadyH.nil
      case h9_52 => exact rfl
      rw [if_pos (by rfl)]
      refine wpK_store _ _ _ rfl pb 4 (.slice A1 b.suf.length c1) #[.slice A1 b.suf.length c1] rfl rfl rfl _ _ HG7.out (by kernel_rfl) (Nat.le_of_ble_eq_true (by kernel_rfl)) (all_one1 _ rfl) _ (set_p4 _ _ _ _ _ _ _ _ _ _) (fun W9 g p' => ?_)
      have HG9 := Lib.hid g
      have HQ9 := Lib.hid p'
      have HK10 := Lib.hid (And.intro (put_cell p' HX.out.2.2.2.1.symm HK8.out.1) (put_cell p' HX.out.2.2.2.1.symm HK8.out.2))
      clear g p'
      refine hK.out _ _ HK10.out (fun hHeld10 => ?_)
      clear hK K9
      try simp only [Act.put, List.getElem_toArray, List.getElem_cons_succ, List.getElem_cons_zero, List.setIfInBounds_toArray, List.set_cons_zero, List.set_cons_succ]
      refine wpAnyH_done (by kernel_rfl) ?_ _
      have hc6 := HC5.out.step (Below.refl _ _).drew
      have RP : ∀ v l, Kd.R k57 57 WV w.heap.size (fun _ => True) v l → Kd.R k57 57 W9 w.heap.size (fun _ => True) v l := fun v l h => by
        have r1 := R_put (Kd.R_drew h) hc6.hp (by decide) HQ5.out
        have r2 := R_put r1 HG5.out (by decide) HQ7.out
        exact R_put r2 HG7.out (by decide) HQ9.out
      have hcn : Cs w W9 rb fb pb w0 w1 (.slice A0 b.pre.length c0) (.slice A1 b.suf.length c1) { q with hasNeg := true, npre := b.pre, nsuf := b.suf } :=
        ⟨((hc6.st.store HQ5.out hc6.plo hc6.pr hc6.pf).store HQ7.out hc6.plo hc6.pr hc6.pf).store HQ9.out hc6.plo hc6.pr hc6.pf, hc6.plo, hc6.pr, hc6.pf, HG9.out, RP _ _ HC5.out.R0, RP _ _ HC5.out.R1, RP _ _ HR0.out, RP _ _ HR1.out⟩
      have HCN := Lib.hid hcn
      clear hc6 RP hcn
      go_wp2
      obtain ⟨l0, l1, hlen⟩ := HL.out
      exact cp17 w W9 rb fb pb w0 w1 (.slice A0 b.pre.length c0) (.slice A1 b.suf.length c1) { q with hasNeg := true, npre := b.pre, nsuf := b.suf } r HRS.out HCN.out l0 l1 (hlen b rfl).1 (hlen b rfl).2
end Go.Proofs.Ytkgdpgoianimjaa.Print
