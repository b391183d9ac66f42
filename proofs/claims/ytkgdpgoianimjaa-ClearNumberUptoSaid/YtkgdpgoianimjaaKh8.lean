/- The reference's half: its padding. -/
import Derived.Test.YtkgdpgoianimjaaKha
namespace Go.Proofs.Ytkgdpgoianimjaa.Print
open Go.RowKit Go.Proofs.Ytkgdpgoianimjaa.Utf Go.Proofs.YtkgdpgoianimjaaW.PrintWords Go.Proofs.YtkgdpgoianimjaaW.PrintLast Go.Proofs.YtkgdpgoianimjaaW.PrintMore
set_option linter.unusedVariables false
set_option linter.unusedSimpArgs false
def hq (n e : Nat) (l : List El) : Option (Int × Int) → Option HalfR
  | none => none
  | some c => h12 n e l c
theorem h9_is (n e : Nat) (first : Bool) (l : List El) : h9 n e first l = hq n e l (padsF (atOf n e l.length) first 0 l 0 (0, 0)) := rfl
theorem atOf_cases (n e len i : Nat) (z m y t : Int) (hz : z = i) (hm : m = (n : Int) - 1) (hy : y = e) (ht : t = (len : Int) - 1) :
    (atOf n e len i = 1 ∧ (z == 0) = true) ∨ (atOf n e len i = 2 ∧ (z == 0) = false ∧ (z == m) = true) ∨ (atOf n e len i = 3 ∧ (z == 0) = false ∧ (z == m) = false ∧ (z == y) = true) ∨
    (atOf n e len i = 4 ∧ (z == 0) = false ∧ (z == m) = false ∧ (z == y) = false ∧ (z == t) = true) ∨ (atOf n e len i = 0 ∧ (z == 0) = false ∧ (z == m) = false ∧ (z == y) = false ∧ (z == t) = false) := by
  unfold atOf
  by_cases h1 : i = 0
  · exact .inl ⟨if_pos h1, beq_iff_eq.2 (by omega)⟩
  have g1 : (z == 0) = false := beq_eq_false_iff_ne.2 (by omega)
  by_cases h2 : i + 1 = n
  · exact .inr (.inl ⟨by rw [if_neg h1, if_pos h2], g1, beq_iff_eq.2 (by omega)⟩)
  have g2 : (z == m) = false := beq_eq_false_iff_ne.2 (by omega)
  by_cases h3 : i = e
  · exact .inr (.inr (.inl ⟨by rw [if_neg h1, if_neg h2, if_pos h3], g1, g2, beq_iff_eq.2 (by omega)⟩))
  have g3 : (z == y) = false := beq_eq_false_iff_ne.2 (by omega)
  by_cases h4 : i + 1 = len
  · exact .inr (.inr (.inr (.inl ⟨by rw [if_neg h1, if_neg h2, if_neg h3, if_pos h4], g1, g2, g3, beq_iff_eq.2 (by omega)⟩)))
  · exact .inr (.inr (.inr (.inr ⟨by rw [if_neg h1, if_neg h2, if_neg h3, if_neg h4], g1, g2, g3, beq_eq_false_iff_ne.2 (by omega)⟩)))
set_option maxHeartbeats 16000000 in
set_option maxRecDepth 1000000 in
theorem hf9 {v1 v3 v4 v5 v12 v13 v14 v15 v16 v17 v18 v19 v20 v21 v22 v23 v24 v25 v26 v27 v28 v29 v30 v31 v32 v33 v34 v35 v36 v37 v38 v39 v40 v41 v42 v43 v44 v45 v46 v47 v48 v49 v50 v51 v52 v53 v54 v55 v56 v57 v58 v59 v60 v61 v62 v63 v64 v65 v66 v67 v68 v69 v70 v71 v72 v73 v74 v75 v76 v77 v78 v79 v80 v81 v82 v83 v84 v85 v86 v87 v88 v89 v90 v91 v92 v93 v94 v95 v96 v97 v98 v99 v100 v101 v102 v103 v104 v105 v106 v107 v108 v109 v110 v111 v112 v113 v114 v115 v116 v117 v118 v119 v120 v121 v122 v123 v124 v125 v126 v127 v128 v129 v130 v131 v132 v133 v134 v135 v136 v137 v138 v139 v140 v141 v142 v143 v144 v145 v146 v147 v148 v149 v150 v151 v152 v153 v154 v155 v156 v157 v158 v159 v160 v161 v162 v163 v164 v165 v166 v167 v168 v169 v170 v171 v172 v173 v174 v175 v176 v177 v178 v179 v180 v181 v182 v183 v184 v185 v186 v187 v188 v189 v190 v191 v192 v193 v194 v195 v196 v197 v198 v199 v200 v201 v202 v203 v204 v205 v206 v207 v208 v209 v210 v211 v212 v213 v214 v215 v216 v217 v218 v219 v220 v221 v222 v223 v224 v225 v226 v227 v228 v229 v230 v231 v232 v233 v234 v235 v236 v237 v238 v239 v240 v241 v242 v243 v244 v245 v246 : Value} (w W : World) (rb fb hb n e : Nat) (AE : Option Addr) (cE : Nat) (first : Bool) (l : List El) (hst : Hst w W rb fb)
    (hh : W.heap[hb]? = some (.cells half0 53 (0, 0))) (hhl : w.heap.size ≤ hb) (hrh : rb ≠ hb) (hfh : fb ≠ hb)
    (hE : Kd.C kEl w AE l.length l) (hn : n < l.length) (hl : l.length ≤ 100000000) (hen : e ≤ l.length) :
    Code.wp Try.prog (Hf 9) (bodyPost Try.prog Try.f17 (HPost (h9 n e first l) w)) ⟨#[.slice AE l.length cE,v1, .bool first,v3,v4,v5, .pointer (some ⟨rb, 0, none⟩), .pointer (some ⟨fb, 0, none⟩), .int .i64 (n : Int), .int .i64 (e : Int), .pointer (some ⟨hb, 0, none⟩), .int .i64 0,v12,v13,v14,v15,v16,v17,v18,v19,v20,v21,v22,v23,v24,v25,v26,v27,v28,v29,v30,v31,v32,v33,v34,v35,v36,v37,v38,v39,v40,v41,v42,v43,v44,v45,v46,v47,v48,v49,v50,v51,v52,v53,v54,v55,v56,v57,v58,v59,v60,v61,v62,v63,v64,v65,v66,v67,v68,v69,v70,v71,v72,v73,v74,v75,v76,v77,v78,v79,v80,v81,v82,v83,v84,v85,v86,v87,v88,v89,v90,v91,v92,v93,v94,v95,v96,v97,v98,v99,v100,v101,v102,v103,v104,v105,v106,v107,v108,v109,v110,v111,v112,v113,v114,v115,v116,v117,v118,v119,v120,v121,v122,v123,v124,v125,v126,v127,v128,v129,v130,v131,v132,v133,v134,v135,v136,v137,v138,v139,v140,v141,v142,v143,v144,v145,v146,v147,v148,v149,v150,v151,v152,v153,v154,v155,v156,v157,v158,v159,v160,v161,v162,v163,v164,v165,v166,v167,v168,v169,v170,v171,v172,v173,v174,v175,v176,v177,v178,v179,v180,v181,v182,v183,v184,v185,v186,v187,v188,v189,v190,v191,v192,v193,v194,v195,v196,v197,v198,v199,v200,v201,v202,v203,v204,v205,v206,v207,v208,v209,v210,v211,v212,v213,v214,v215,v216,v217,v218,v219,v220,v221,v222,v223,v224,v225,v226,v227,v228,v229,v230,v231,v232,v233,v234,v235,v236,v237,v238,v239,v240,v241,v242,v243,v244,v245,v246], []⟩ W := by
  have HALL := Lib.hid (And.intro hhl (And.intro hrh (And.intro hfh (And.intro hE (And.intro hn (And.intro hl hen))))))
  obtain ⟨bk, o, hA1, hbk, hcells⟩ := els_at hE (fun e => by rw [e] at hn; simp at hn)
  have HCE := Lib.hid hcells
  have HAE := Lib.hid hA1
  have HBK := Lib.hid hbk
  have HNB : Hid (bk ≠ rb ∧ bk ≠ fb ∧ bk ≠ hb) := Lib.hid ⟨by have := hst.rlo; omega, by have := hst.flo; omega, by omega⟩
  obtain ⟨R, hR⟩ : ∃ R, R = padsF (atOf n e l.length) first 0 l 0 (0, 0) := ⟨_, rfl⟩
  obtain ⟨r, hr⟩ : ∃ r, r = h9 n e first l := ⟨_, rfl⟩
  rw [← hr]
  have HRR : Hid (r = hq n e l R) := Lib.hid (by rw [hr, hR]; exact h9_is n e first l)
  have HR := Lib.hid hR
  have HS := Lib.hid hst
  have HH := Lib.hid hh
  have hne : (n : Int) ≤ 100000000 := by omega
  have hle : (l.length : Int) ≤ 100000000 := by omega
  clear hst hh hhl hrh hfh hE hn hR hbk hcells hA1 hr hl hen
  rw [show Hf 9 = .seq (stmtOf 9 hfBody) (Hf 10) from by kernel_rfl]
  have hz9 : stmtOf 9 hfBody = stmtOf 9 hfBody := rfl
  conv at hz9 => rhs; whnf
  rw [hz9]; clear hz9
  go_wp2
  go_loopw [11, 12, 13] (fun v11 v12 v13 wx => ∃ (i k : Nat) (c : Int × Int), v12 = .int .i64 (i : Int) ∧ v11 = .int .i64 (k : Int) ∧ i ≤ l.length ∧ (k = 0 ∨ k = 1) ∧ Hst w wx rb fb ∧ wx.heap[hb]? = some (.cells (halfC (.slice none 0 0) (.slice none 0 0) N.np0 c.1 c.2 0) 53 (0, 0)) ∧ Hid (padsF (atOf n e l.length) first i (l.drop i) k c = R)) (fun v11 v12 v13 wx => l.length - (RowKit.intOf v12).toNat)
  case atStart => exact ⟨0, 0, (0, 0), rfl, rfl, Nat.zero_le _, .inl rfl, HS.out, HH.out, Lib.hid HR.out.symm⟩
  case round =>
    clear HS HH HR
    obtain ⟨i, k, ⟨c1, c2⟩, rfl, rfl, hil, hk, hs, hh, hgo⟩ := hrel
    have HS := Lib.hid hs
    have HH := Lib.hid hh
    clear hs hh
    by_cases hi : i < l.length
    · obtain ⟨x, hx⟩ : ∃ x, l[i]? = some x := ⟨_, List.getElem?_eq_getElem hi⟩
      have hia := fun W => idx_els l.length cE i bk o AE W HAE.out hi
      have hc := HCE.out i x hx
      have hcx0 := (HS.out.below.cell (p := ⟨bk, o + i * 4, none⟩) HBK.out).trans hc.1
      have hcx2 := (HS.out.below.cell (p := ⟨bk, o + i * 4 + 2, none⟩) HBK.out).trans hc.2.2.1
      have hcx3 := (HS.out.below.cell (p := ⟨bk, o + i * 4 + 3, none⟩) HBK.out).trans hc.2.2.2
      have hgo' := hgo.out
      rw [drop_getE hx] at hgo'
      clear hgo hx hc
      obtain ⟨⟨q, bb, ta⟩, p⟩ := x
      simp only at hcx0 hcx2 hcx3
      simp only [padsF] at hgo'
      cases p with
      | false =>
        rw [if_neg (by simp)] at hgo'
        have HG := Lib.hid hgo'
        clear hgo'
        go_wp2
        go_roundw
        case rel => exact ⟨i + 1, k, (c1, c2), by go_num, rfl, by omega, hk, HS.out, HH.out, HG⟩
        case measure => simp [RowKit.intOf]; omega
      | true =>
        rw [if_pos rfl] at hgo'
        have HCX0 := Lib.hid hcx0
        have HCX2 := Lib.hid hcx2
        have hi64 : (i : Int) < 100000000 := by omega
        have hsw := atOf_cases n e l.length i _ _ _ _ rfl rfl rfl rfl
        clear hcx0 hcx2
        have hsub1 : IntKind.i64.wrap ((n : Int) - 1) = (n : Int) - 1 := IntWalk.i64_in _ (by omega)
        have hsub2 : IntKind.i64.wrap ((l.length : Int) - 1) = (l.length : Int) - 1 := IntWalk.i64_in _ (by omega)
        rcases hk with rfl | rfl
        · cases first with
          | false =>
            rw [if_pos (.inr (.inr rfl))] at hgo'
            subst hgo'
            (have hrr := HRR.out; simp only [hq] at hrr; subst hrr)
            clear HRR
            rcases hsw with ⟨ha, d0⟩ | ⟨ha, d0, d1⟩ | ⟨ha, d0, d1, d2⟩ | ⟨ha, d0, d1, d2, d3⟩ | ⟨ha, d0, d1, d2, d3⟩
            · skip
              have HC : Hid (wr.drew.cell? ⟨bk, o + i * 4 + 2, none⟩ = some (.int .i64 ta)) := Lib.hid HCX2.out
              go_wp2
              refine wp_region_held_drew (S := fun w' => w'.cell? ⟨bk, o + i * 4 + 2, none⟩ = some (.int .i64 ta)) (by kernel_rfl) HC.out (fun hHeld => ?_)
              refine wpAnyH_take (i := 0) (oi := ?o0_1) (v := .agg half0) ?h0_1 (by kernel_rfl) (by kernel_rfl) (by kernel_rfl) ?q0_1 ?y0_1 hHeld ?r0_1
              case h0_1 => exact rfl
              case q0_1 => exact fun _ _ _ h => h
              case y0_1 => exact Or.inl ⟨by rfl, fun w hw => by first | rfl | (go_simp; done) | (go_simp; kernel_rfl)⟩
              try simp only [Act.put, List.getElem_toArray, List.getElem_cons_succ, List.getElem_cons_zero, List.setIfInBounds_toArray, List.set_cons_zero, List.set_cons_succ]
              refine wpAnyH_take (i := 1) (oi := ?o1_2) (v := .slice AE l.length cE) ?h1_2 (by kernel_rfl) (by kernel_rfl) (by kernel_rfl) ?q1_2 ?y1_2 hHeld ?r1_2
              case h1_2 => exact rfl
              case q1_2 => exact fun _ _ _ h => h
              case y1_2 => exact Or.inl ⟨by rfl, fun w hw => by first | rfl | (go_simp; done) | (go_simp; kernel_rfl)⟩
              try simp only [Act.put, List.getElem_toArray, List.getElem_cons_succ, List.getElem_cons_zero, List.setIfInBounds_toArray, List.set_cons_zero, List.set_cons_succ]
              refine wpAnyH_take (i := 2) (oi := ?o2_3) (v := .int .i64 (i : Int)) ?h2_3 (by kernel_rfl) (by kernel_rfl) (by kernel_rfl) ?q2_3 ?y2_3 hHeld ?r2_3
              case h2_3 => exact rfl
              case q2_3 => exact fun _ _ _ h => h
              case y2_3 => exact Or.inl ⟨by rfl, fun w hw => by first | rfl | (go_simp; done) | (go_simp; kernel_rfl)⟩
              try simp only [Act.put, List.getElem_toArray, List.getElem_cons_succ, List.getElem_cons_zero, List.setIfInBounds_toArray, List.set_cons_zero, List.set_cons_succ]
              refine wpAnyH_take (i := 3) (oi := ?o3_4) (v := .pointer (some ⟨bk, o + i * 4, none⟩)) ?h3_4 (by kernel_rfl) (by kernel_rfl) (by kernel_rfl) ?q3_4 ?y3_4 hHeld ?r3_4
              case h3_4 => exact rfl
              case q3_4 => exact fun _ _ _ h => h
              case y3_4 => exact Or.inl ⟨by rfl, fun w hw => by first | rfl | (go_simp; done) | (go_simp; kernel_rfl)⟩
              try simp only [Act.put, List.getElem_toArray, List.getElem_cons_succ, List.getElem_cons_zero, List.setIfInBounds_toArray, List.set_cons_zero, List.set_cons_succ]
              refine wpAnyH_take (i := 4) (oi := ?o4_5) (v := .pointer (some ⟨bk, o + i * 4, none⟩)) ?h4_5 (by kernel_rfl) (by kernel_rfl) (by kernel_rfl) ?q4_5 ?y4_5 hHeld ?r4_5
              case h4_5 => exact rfl
              case q4_5 => exact fun _ _ _ h => h
              case y4_5 => exact Or.inl ⟨by rfl, fun w hw => by first | rfl | (go_simp; done) | (go_simp; kernel_rfl)⟩
              try simp only [Act.put, List.getElem_toArray, List.getElem_cons_succ, List.getElem_cons_zero, List.setIfInBounds_toArray, List.set_cons_zero, List.set_cons_succ]
              refine wpAnyH_take (i := 5) (oi := ?o5_6) (v := .pointer (some ⟨bk, o + i * 4 + 2, none⟩)) ?h5_6 (by kernel_rfl) (by kernel_rfl) (by kernel_rfl) ?q5_6 ?y5_6 hHeld ?r5_6
              case h5_6 => exact rfl
              case q5_6 => exact fun _ _ _ h => h
              case y5_6 => exact Or.inl ⟨by rfl, fun w hw => by first | rfl | (go_simp; done) | (go_simp; kernel_rfl)⟩
              try simp only [Act.put, List.getElem_toArray, List.getElem_cons_succ, List.getElem_cons_zero, List.setIfInBounds_toArray, List.set_cons_zero, List.set_cons_succ]
              refine wpAnyH_take (i := 6) (oi := ?o6_7) (v := .int .i64 ta) ?h6_7 (by kernel_rfl) (by kernel_rfl) (by kernel_rfl) ?q6_7 ?y6_7 hHeld ?r6_7
              case h6_7 => exact rfl
              case q6_7 => exact fun _ _ _ h => h
              case y6_7 => exact Or.inl ⟨by rfl, fun w hw => by (dsimp only at hw); go_simp⟩
              try simp only [Act.put, List.getElem_toArray, List.getElem_cons_succ, List.getElem_cons_zero, List.setIfInBounds_toArray, List.set_cons_zero, List.set_cons_succ]
              refine wpAnyH_take (i := 7) (oi := ?o7_8) (v := .agg #[.int .i64 7, .int .i64 ta]) ?h7_8 (by kernel_rfl) (by kernel_rfl) (by kernel_rfl) ?q7_8 ?y7_8 hHeld ?r7_8
              case h7_8 => exact rfl
              case q7_8 => exact fun _ _ _ h => h
              case y7_8 => exact Or.inl ⟨by rfl, fun w hw => by first | rfl | (go_simp; done) | (go_simp; kernel_rfl)⟩
              try simp only [Act.put, List.getElem_toArray, List.getElem_cons_succ, List.getElem_cons_zero, List.setIfInBounds_toArray, List.set_cons_zero, List.set_cons_succ]
              refine wpAnyH_ready (rs := [8]) (by kernel_rfl) (by simp) ?_
              refine AllReadyH.cons (o := ?o8_9) ?h8_9 (fun K8 hK => ?s8_9) AllReadyH.nil
              case h8_9 => exact rfl
              rw [if_pos (by rfl)]
              refine wpK_store _ _ _ rfl rb 0 (.agg half0) half0 rfl rfl rfl _ _ (show wr.drew.heap[rb]? = _ from HS.out.res) (by kernel_rfl) (Nat.le_of_ble_eq_true (by kernel_rfl)) half0_one _ (set_half0 _ _ _ _ _ _) (fun W2 g p' => ?_)
              have HG2 := Lib.hid g
              have HQ2 := Lib.hid p'
              have HC2 : Hid (W2.cell? ⟨bk, o + i * 4 + 2, none⟩ = some (.int .i64 ta)) := Lib.hid (put_cell p' HNB.out.1 HC.out)
              have HF2 := Lib.hid (p'.other (show wr.drew.heap[fb]? = _ from HS.out.flt) HS.out.ne.symm)
              clear g p'
              refine hK.out _ _ HC2.out (fun hHeld2 => ?_)
              clear hK K8
              try simp only [Act.put, List.getElem_toArray, List.getElem_cons_succ, List.getElem_cons_zero, List.setIfInBounds_toArray, List.set_cons_zero, List.set_cons_succ]
              refine wpAnyH_ready (rs := [9]) (by kernel_rfl) (by simp) ?_
              refine AllReadyH.cons (o := ?o9_10) ?h9_10 (fun K9 hK => ?s9_10) AllReadyH.nil
              case h9_10 => exact rfl
              rw [if_pos (by rfl)]
              refine wpK_store _ _ _ rfl fb 0 (.agg #[.int .i64 7, .int .i64 ta]) #[.int .i64 7, .int .i64 ta] rfl rfl rfl _ _ HF2.out (by kernel_rfl) (Nat.le_of_ble_eq_true (by kernel_rfl)) (all_one2 _ _ rfl rfl) _ (set_flt _ _ _ _) (fun W3 g p' => ?_)
              have HG3 := Lib.hid g
              have HQ3 := Lib.hid p'
              have HR3 := Lib.hid (p'.other HG2.out HS.out.ne)
              have HC3 : Hid (W3.cell? ⟨bk, o + i * 4 + 2, none⟩ = some (.int .i64 ta)) := Lib.hid (put_cell p' HNB.out.2.1 HC2.out)
              clear g p'
              refine hK.out _ _ HC3.out (fun hHeld3 => ?_)
              clear hK K9
              try simp only [Act.put, List.getElem_toArray, List.getElem_cons_succ, List.getElem_cons_zero, List.setIfInBounds_toArray, List.set_cons_zero, List.set_cons_succ]
              refine wpAnyH_done (by kernel_rfl) ?_ _
              go_wp2
              refine bodyPost_ret (results_cells2 rfl _ _ rb fb 53 29 half0 #[.int .i64 7, .int .i64 ta] (0, 0) (0, 0) _ _ rfl HR3.out Try.underlying53 rfl (by kernel_rfl) rfl HG3.out Try.underlying29 rfl (by kernel_rfl)) rfl ?_
              exact half_out (W := W) (rb := rb) (fb := fb) 7 ta (by decide) (HQ3.out.below (HQ2.out.below HS.out.below.drew HS.out.rlo) HS.out.flo) _ rfl
            · skip
              have HC : Hid (wr.drew.cell? ⟨bk, o + i * 4 + 2, none⟩ = some (.int .i64 ta)) := Lib.hid HCX2.out
              go_wp2
              refine wp_region_held_drew (S := fun w' => w'.cell? ⟨bk, o + i * 4 + 2, none⟩ = some (.int .i64 ta)) (by kernel_rfl) HC.out (fun hHeld => ?_)
              refine wpAnyH_take (i := 0) (oi := ?o0_11) (v := .agg half0) ?h0_11 (by kernel_rfl) (by kernel_rfl) (by kernel_rfl) ?q0_11 ?y0_11 hHeld ?r0_11
              case h0_11 => exact rfl
              case q0_11 => exact fun _ _ _ h => h
              case y0_11 => exact Or.inl ⟨by rfl, fun w hw => by first | rfl | (go_simp; done) | (go_simp; kernel_rfl)⟩
              try simp only [Act.put, List.getElem_toArray, List.getElem_cons_succ, List.getElem_cons_zero, List.setIfInBounds_toArray, List.set_cons_zero, List.set_cons_succ]
              refine wpAnyH_take (i := 1) (oi := ?o1_12) (v := .slice AE l.length cE) ?h1_12 (by kernel_rfl) (by kernel_rfl) (by kernel_rfl) ?q1_12 ?y1_12 hHeld ?r1_12
              case h1_12 => exact rfl
              case q1_12 => exact fun _ _ _ h => h
              case y1_12 => exact Or.inl ⟨by rfl, fun w hw => by first | rfl | (go_simp; done) | (go_simp; kernel_rfl)⟩
              try simp only [Act.put, List.getElem_toArray, List.getElem_cons_succ, List.getElem_cons_zero, List.setIfInBounds_toArray, List.set_cons_zero, List.set_cons_succ]
              refine wpAnyH_take (i := 2) (oi := ?o2_13) (v := .int .i64 (i : Int)) ?h2_13 (by kernel_rfl) (by kernel_rfl) (by kernel_rfl) ?q2_13 ?y2_13 hHeld ?r2_13
              case h2_13 => exact rfl
              case q2_13 => exact fun _ _ _ h => h
              case y2_13 => exact Or.inl ⟨by rfl, fun w hw => by first | rfl | (go_simp; done) | (go_simp; kernel_rfl)⟩
              try simp only [Act.put, List.getElem_toArray, List.getElem_cons_succ, List.getElem_cons_zero, List.setIfInBounds_toArray, List.set_cons_zero, List.set_cons_succ]
              refine wpAnyH_take (i := 3) (oi := ?o3_14) (v := .pointer (some ⟨bk, o + i * 4, none⟩)) ?h3_14 (by kernel_rfl) (by kernel_rfl) (by kernel_rfl) ?q3_14 ?y3_14 hHeld ?r3_14
              case h3_14 => exact rfl
              case q3_14 => exact fun _ _ _ h => h
              case y3_14 => exact Or.inl ⟨by rfl, fun w hw => by first | rfl | (go_simp; done) | (go_simp; kernel_rfl)⟩
              try simp only [Act.put, List.getElem_toArray, List.getElem_cons_succ, List.getElem_cons_zero, List.setIfInBounds_toArray, List.set_cons_zero, List.set_cons_succ]
              refine wpAnyH_take (i := 4) (oi := ?o4_15) (v := .pointer (some ⟨bk, o + i * 4, none⟩)) ?h4_15 (by kernel_rfl) (by kernel_rfl) (by kernel_rfl) ?q4_15 ?y4_15 hHeld ?r4_15
              case h4_15 => exact rfl
              case q4_15 => exact fun _ _ _ h => h
              case y4_15 => exact Or.inl ⟨by rfl, fun w hw => by first | rfl | (go_simp; done) | (go_simp; kernel_rfl)⟩
              try simp only [Act.put, List.getElem_toArray, List.getElem_cons_succ, List.getElem_cons_zero, List.setIfInBounds_toArray, List.set_cons_zero, List.set_cons_succ]
              refine wpAnyH_take (i := 5) (oi := ?o5_16) (v := .pointer (some ⟨bk, o + i * 4 + 2, none⟩)) ?h5_16 (by kernel_rfl) (by kernel_rfl) (by kernel_rfl) ?q5_16 ?y5_16 hHeld ?r5_16
              case h5_16 => exact rfl
              case q5_16 => exact fun _ _ _ h => h
              case y5_16 => exact Or.inl ⟨by rfl, fun w hw => by first | rfl | (go_simp; done) | (go_simp; kernel_rfl)⟩
              try simp only [Act.put, List.getElem_toArray, List.getElem_cons_succ, List.getElem_cons_zero, List.setIfInBounds_toArray, List.set_cons_zero, List.set_cons_succ]
              refine wpAnyH_take (i := 6) (oi := ?o6_17) (v := .int .i64 ta) ?h6_17 (by kernel_rfl) (by kernel_rfl) (by kernel_rfl) ?q6_17 ?y6_17 hHeld ?r6_17
              case h6_17 => exact rfl
              case q6_17 => exact fun _ _ _ h => h
              case y6_17 => exact Or.inl ⟨by rfl, fun w hw => by (dsimp only at hw); go_simp⟩
              try simp only [Act.put, List.getElem_toArray, List.getElem_cons_succ, List.getElem_cons_zero, List.setIfInBounds_toArray, List.set_cons_zero, List.set_cons_succ]
              refine wpAnyH_take (i := 7) (oi := ?o7_18) (v := .agg #[.int .i64 7, .int .i64 ta]) ?h7_18 (by kernel_rfl) (by kernel_rfl) (by kernel_rfl) ?q7_18 ?y7_18 hHeld ?r7_18
              case h7_18 => exact rfl
              case q7_18 => exact fun _ _ _ h => h
              case y7_18 => exact Or.inl ⟨by rfl, fun w hw => by first | rfl | (go_simp; done) | (go_simp; kernel_rfl)⟩
              try simp only [Act.put, List.getElem_toArray, List.getElem_cons_succ, List.getElem_cons_zero, List.setIfInBounds_toArray, List.set_cons_zero, List.set_cons_succ]
              refine wpAnyH_ready (rs := [8]) (by kernel_rfl) (by simp) ?_
              refine AllReadyH.cons (o := ?o8_19) ?h8_19 (fun K8 hK => ?s8_19) AllReadyH.nil
              case h8_19 => exact rfl
              rw [if_pos (by rfl)]
              refine wpK_store _ _ _ rfl rb 0 (.agg half0) half0 rfl rfl rfl _ _ (show wr.drew.heap[rb]? = _ from HS.out.res) (by kernel_rfl) (Nat.le_of_ble_eq_true (by kernel_rfl)) half0_one _ (set_half0 _ _ _ _ _ _) (fun W2 g p' => ?_)
              have HG2 := Lib.hid g
              have HQ2 := Lib.hid p'
              have HC2 : Hid (W2.cell? ⟨bk, o + i * 4 + 2, none⟩ = some (.int .i64 ta)) := Lib.hid (put_cell p' HNB.out.1 HC.out)
              have HF2 := Lib.hid (p'.other (show wr.drew.heap[fb]? = _ from HS.out.flt) HS.out.ne.symm)
              clear g p'
              refine hK.out _ _ HC2.out (fun hHeld2 => ?_)
              clear hK K8
              try simp only [Act.put, List.getElem_toArray, List.getElem_cons_succ, List.getElem_cons_zero, List.setIfInBounds_toArray, List.set_cons_zero, List.set_cons_succ]
              refine wpAnyH_ready (rs := [9]) (by kernel_rfl) (by simp) ?_
              refine AllReadyH.cons (o := ?o9_20) ?h9_20 (fun K9 hK => ?s9_20) AllReadyH.nil
              case h9_20 => exact rfl
              rw [if_pos (by rfl)]
              refine wpK_store _ _ _ rfl fb 0 (.agg #[.int .i64 7, .int .i64 ta]) #[.int .i64 7, .int .i64 ta] rfl rfl rfl _ _ HF2.out (by kernel_rfl) (Nat.le_of_ble_eq_true (by kernel_rfl)) (all_one2 _ _ rfl rfl) _ (set_flt _ _ _ _) (fun W3 g p' => ?_)
              have HG3 := Lib.hid g
              have HQ3 := Lib.hid p'
              have HR3 := Lib.hid (p'.other HG2.out HS.out.ne)
              have HC3 : Hid (W3.cell? ⟨bk, o + i * 4 + 2, none⟩ = some (.int .i64 ta)) := Lib.hid (put_cell p' HNB.out.2.1 HC2.out)
              clear g p'
              refine hK.out _ _ HC3.out (fun hHeld3 => ?_)
              clear hK K9
              try simp only [Act.put, List.getElem_toArray, List.getElem_cons_succ, List.getElem_cons_zero, List.setIfInBounds_toArray, List.set_cons_zero, List.set_cons_succ]
              refine wpAnyH_done (by kernel_rfl) ?_ _
              go_wp2
              refine bodyPost_ret (results_cells2 rfl _ _ rb fb 53 29 half0 #[.int .i64 7, .int .i64 ta] (0, 0) (0, 0) _ _ rfl HR3.out Try.underlying53 rfl (by kernel_rfl) rfl HG3.out Try.underlying29 rfl (by kernel_rfl)) rfl ?_
              exact half_out (W := W) (rb := rb) (fb := fb) 7 ta (by decide) (HQ3.out.below (HQ2.out.below HS.out.below.drew HS.out.rlo) HS.out.flo) _ rfl
            · skip
              have HC : Hid (wr.drew.cell? ⟨bk, o + i * 4 + 2, none⟩ = some (.int .i64 ta)) := Lib.hid HCX2.out
              go_wp2
              refine wp_region_held_drew (S := fun w' => w'.cell? ⟨bk, o + i * 4 + 2, none⟩ = some (.int .i64 ta)) (by kernel_rfl) HC.out (fun hHeld => ?_)
              refine wpAnyH_take (i := 0) (oi := ?o0_21) (v := .agg half0) ?h0_21 (by kernel_rfl) (by kernel_rfl) (by kernel_rfl) ?q0_21 ?y0_21 hHeld ?r0_21
              case h0_21 => exact rfl
              case q0_21 => exact fun _ _ _ h => h
              case y0_21 => exact Or.inl ⟨by rfl, fun w hw => by first | rfl | (go_simp; done) | (go_simp; kernel_rfl)⟩
              try simp only [Act.put, List.getElem_toArray, List.getElem_cons_succ, List.getElem_cons_zero, List.setIfInBounds_toArray, List.set_cons_zero, List.set_cons_succ]
              refine wpAnyH_take (i := 1) (oi := ?o1_22) (v := .slice AE l.length cE) ?h1_22 (by kernel_rfl) (by kernel_rfl) (by kernel_rfl) ?q1_22 ?y1_22 hHeld ?r1_22
              case h1_22 => exact rfl
              case q1_22 => exact fun _ _ _ h => h
              case y1_22 => exact Or.inl ⟨by rfl, fun w hw => by first | rfl | (go_simp; done) | (go_simp; kernel_rfl)⟩
              try simp only [Act.put, List.getElem_toArray, List.getElem_cons_succ, List.getElem_cons_zero, List.setIfInBounds_toArray, List.set_cons_zero, List.set_cons_succ]
              refine wpAnyH_take (i := 2) (oi := ?o2_23) (v := .int .i64 (i : Int)) ?h2_23 (by kernel_rfl) (by kernel_rfl) (by kernel_rfl) ?q2_23 ?y2_23 hHeld ?r2_23
              case h2_23 => exact rfl
              case q2_23 => exact fun _ _ _ h => h
              case y2_23 => exact Or.inl ⟨by rfl, fun w hw => by first | rfl | (go_simp; done) | (go_simp; kernel_rfl)⟩
              try simp only [Act.put, List.getElem_toArray, List.getElem_cons_succ, List.getElem_cons_zero, List.setIfInBounds_toArray, List.set_cons_zero, List.set_cons_succ]
              refine wpAnyH_take (i := 3) (oi := ?o3_24) (v := .pointer (some ⟨bk, o + i * 4, none⟩)) ?h3_24 (by kernel_rfl) (by kernel_rfl) (by kernel_rfl) ?q3_24 ?y3_24 hHeld ?r3_24
              case h3_24 => exact rfl
              case q3_24 => exact fun _ _ _ h => h
              case y3_24 => exact Or.inl ⟨by rfl, fun w hw => by first | rfl | (go_simp; done) | (go_simp; kernel_rfl)⟩
              try simp only [Act.put, List.getElem_toArray, List.getElem_cons_succ, List.getElem_cons_zero, List.setIfInBounds_toArray, List.set_cons_zero, List.set_cons_succ]
              refine wpAnyH_take (i := 4) (oi := ?o4_25) (v := .pointer (some ⟨bk, o + i * 4, none⟩)) ?h4_25 (by kernel_rfl) (by kernel_rfl) (by kernel_rfl) ?q4_25 ?y4_25 hHeld ?r4_25
              case h4_25 => exact rfl
              case q4_25 => exact fun _ _ _ h => h
              case y4_25 => exact Or.inl ⟨by rfl, fun w hw => by first | rfl | (go_simp; done) | (go_simp; kernel_rfl)⟩
              try simp only [Act.put, List.getElem_toArray, List.getElem_cons_succ, List.getElem_cons_zero, List.setIfInBounds_toArray, List.set_cons_zero, List.set_cons_succ]
              refine wpAnyH_take (i := 5) (oi := ?o5_26) (v := .pointer (some ⟨bk, o + i * 4 + 2, none⟩)) ?h5_26 (by kernel_rfl) (by kernel_rfl) (by kernel_rfl) ?q5_26 ?y5_26 hHeld ?r5_26
              case h5_26 => exact rfl
              case q5_26 => exact fun _ _ _ h => h
              case y5_26 => exact Or.inl ⟨by rfl, fun w hw => by first | rfl | (go_simp; done) | (go_simp; kernel_rfl)⟩
              try simp only [Act.put, List.getElem_toArray, List.getElem_cons_succ, List.getElem_cons_zero, List.setIfInBounds_toArray, List.set_cons_zero, List.set_cons_succ]
              refine wpAnyH_take (i := 6) (oi := ?o6_27) (v := .int .i64 ta) ?h6_27 (by kernel_rfl) (by kernel_rfl) (by kernel_rfl) ?q6_27 ?y6_27 hHeld ?r6_27
              case h6_27 => exact rfl
              case q6_27 => exact fun _ _ _ h => h
              case y6_27 => exact Or.inl ⟨by rfl, fun w hw => by (dsimp only at hw); go_simp⟩
              try simp only [Act.put, List.getElem_toArray, List.getElem_cons_succ, List.getElem_cons_zero, List.setIfInBounds_toArray, List.set_cons_zero, List.set_cons_succ]
              refine wpAnyH_take (i := 7) (oi := ?o7_28) (v := .agg #[.int .i64 7, .int .i64 ta]) ?h7_28 (by kernel_rfl) (by kernel_rfl) (by kernel_rfl) ?q7_28 ?y7_28 hHeld ?r7_28
              case h7_28 => exact rfl
              case q7_28 => exact fun _ _ _ h => h
              case y7_28 => exact Or.inl ⟨by rfl, fun w hw => by first | rfl | (go_simp; done) | (go_simp; kernel_rfl)⟩
              try simp only [Act.put, List.getElem_toArray, List.getElem_cons_succ, List.getElem_cons_zero, List.setIfInBounds_toArray, List.set_cons_zero, List.set_cons_succ]
              refine wpAnyH_ready (rs := [8]) (by kernel_rfl) (by simp) ?_
              refine AllReadyH.cons (o := ?o8_29) ?h8_29 (fun K8 hK => ?s8_29) AllReadyH.nil
              case h8_29 => exact rfl
              rw [if_pos (by rfl)]
              refine wpK_store _ _ _ rfl rb 0 (.agg half0) half0 rfl rfl rfl _ _ (show wr.drew.heap[rb]? = _ from HS.out.res) (by kernel_rfl) (Nat.le_of_ble_eq_true (by kernel_rfl)) half0_one _ (set_half0 _ _ _ _ _ _) (fun W2 g p' => ?_)
              have HG2 := Lib.hid g
              have HQ2 := Lib.hid p'
              have HC2 : Hid (W2.cell? ⟨bk, o + i * 4 + 2, none⟩ = some (.int .i64 ta)) := Lib.hid (put_cell p' HNB.out.1 HC.out)
              have HF2 := Lib.hid (p'.other (show wr.drew.heap[fb]? = _ from HS.out.flt) HS.out.ne.symm)
              clear g p'
              refine hK.out _ _ HC2.out (fun hHeld2 => ?_)
              clear hK K8
              try simp only [Act.put, List.getElem_toArray, List.getElem_cons_succ, List.getElem_cons_zero, List.setIfInBounds_toArray, List.set_cons_zero, List.set_cons_succ]
              refine wpAnyH_ready (rs := [9]) (by kernel_rfl) (by simp) ?_
              refine AllReadyH.cons (o := ?o9_30) ?h9_30 (fun K9 hK => ?s9_30) AllReadyH.nil
              case h9_30 => exact rfl
              rw [if_pos (by rfl)]
              refine wpK_store _ _ _ rfl fb 0 (.agg #[.int .i64 7, .int .i64 ta]) #[.int .i64 7, .int .i64 ta] rfl rfl rfl _ _ HF2.out (by kernel_rfl) (Nat.le_of_ble_eq_true (by kernel_rfl)) (all_one2 _ _ rfl rfl) _ (set_flt _ _ _ _) (fun W3 g p' => ?_)
              have HG3 := Lib.hid g
              have HQ3 := Lib.hid p'
              have HR3 := Lib.hid (p'.other HG2.out HS.out.ne)
              have HC3 : Hid (W3.cell? ⟨bk, o + i * 4 + 2, none⟩ = some (.int .i64 ta)) := Lib.hid (put_cell p' HNB.out.2.1 HC2.out)
              clear g p'
              refine hK.out _ _ HC3.out (fun hHeld3 => ?_)
              clear hK K9
              try simp only [Act.put, List.getElem_toArray, List.getElem_cons_succ, List.getElem_cons_zero, List.setIfInBounds_toArray, List.set_cons_zero, List.set_cons_succ]
              refine wpAnyH_done (by kernel_rfl) ?_ _
              go_wp2
              refine bodyPost_ret (results_cells2 rfl _ _ rb fb 53 29 half0 #[.int .i64 7, .int .i64 ta] (0, 0) (0, 0) _ _ rfl HR3.out Try.underlying53 rfl (by kernel_rfl) rfl HG3.out Try.underlying29 rfl (by kernel_rfl)) rfl ?_
              exact half_out (W := W) (rb := rb) (fb := fb) 7 ta (by decide) (HQ3.out.below (HQ2.out.below HS.out.below.drew HS.out.rlo) HS.out.flo) _ rfl
            · skip
              have HC : Hid (wr.drew.cell? ⟨bk, o + i * 4 + 2, none⟩ = some (.int .i64 ta)) := Lib.hid HCX2.out
              go_wp2
              refine wp_region_held_drew (S := fun w' => w'.cell? ⟨bk, o + i * 4 + 2, none⟩ = some (.int .i64 ta)) (by kernel_rfl) HC.out (fun hHeld => ?_)
              refine wpAnyH_take (i := 0) (oi := ?o0_31) (v := .agg half0) ?h0_31 (by kernel_rfl) (by kernel_rfl) (by kernel_rfl) ?q0_31 ?y0_31 hHeld ?r0_31
              case h0_31 => exact rfl
              case q0_31 => exact fun _ _ _ h => h
              case y0_31 => exact Or.inl ⟨by rfl, fun w hw => by first | rfl | (go_simp; done) | (go_simp; kernel_rfl)⟩
              try simp only [Act.put, List.getElem_toArray, List.getElem_cons_succ, List.getElem_cons_zero, List.setIfInBounds_toArray, List.set_cons_zero, List.set_cons_succ]
              refine wpAnyH_take (i := 1) (oi := ?o1_32) (v := .slice AE l.length cE) ?h1_32 (by kernel_rfl) (by kernel_rfl) (by kernel_rfl) ?q1_32 ?y1_32 hHeld ?r1_32
              case h1_32 => exact rfl
              case q1_32 => exact fun _ _ _ h => h
              case y1_32 => exact Or.inl ⟨by rfl, fun w hw => by first | rfl | (go_simp; done) | (go_simp; kernel_rfl)⟩
              try simp only [Act.put, List.getElem_toArray, List.getElem_cons_succ, List.getElem_cons_zero, List.setIfInBounds_toArray, List.set_cons_zero, List.set_cons_succ]
              refine wpAnyH_take (i := 2) (oi := ?o2_33) (v := .int .i64 (i : Int)) ?h2_33 (by kernel_rfl) (by kernel_rfl) (by kernel_rfl) ?q2_33 ?y2_33 hHeld ?r2_33
              case h2_33 => exact rfl
              case q2_33 => exact fun _ _ _ h => h
              case y2_33 => exact Or.inl ⟨by rfl, fun w hw => by first | rfl | (go_simp; done) | (go_simp; kernel_rfl)⟩
              try simp only [Act.put, List.getElem_toArray, List.getElem_cons_succ, List.getElem_cons_zero, List.setIfInBounds_toArray, List.set_cons_zero, List.set_cons_succ]
              refine wpAnyH_take (i := 3) (oi := ?o3_34) (v := .pointer (some ⟨bk, o + i * 4, none⟩)) ?h3_34 (by kernel_rfl) (by kernel_rfl) (by kernel_rfl) ?q3_34 ?y3_34 hHeld ?r3_34
              case h3_34 => exact rfl
              case q3_34 => exact fun _ _ _ h => h
              case y3_34 => exact Or.inl ⟨by rfl, fun w hw => by first | rfl | (go_simp; done) | (go_simp; kernel_rfl)⟩
              try simp only [Act.put, List.getElem_toArray, List.getElem_cons_succ, List.getElem_cons_zero, List.setIfInBounds_toArray, List.set_cons_zero, List.set_cons_succ]
              refine wpAnyH_take (i := 4) (oi := ?o4_35) (v := .pointer (some ⟨bk, o + i * 4, none⟩)) ?h4_35 (by kernel_rfl) (by kernel_rfl) (by kernel_rfl) ?q4_35 ?y4_35 hHeld ?r4_35
              case h4_35 => exact rfl
              case q4_35 => exact fun _ _ _ h => h
              case y4_35 => exact Or.inl ⟨by rfl, fun w hw => by first | rfl | (go_simp; done) | (go_simp; kernel_rfl)⟩
              try simp only [Act.put, List.getElem_toArray, List.getElem_cons_succ, List.getElem_cons_zero, List.setIfInBounds_toArray, List.set_cons_zero, List.set_cons_succ]
              refine wpAnyH_take (i := 5) (oi := ?o5_36) (v := .pointer (some ⟨bk, o + i * 4 + 2, none⟩)) ?h5_36 (by kernel_rfl) (by kernel_rfl) (by kernel_rfl) ?q5_36 ?y5_36 hHeld ?r5_36
              case h5_36 => exact rfl
              case q5_36 => exact fun _ _ _ h => h
              case y5_36 => exact Or.inl ⟨by rfl, fun w hw => by first | rfl | (go_simp; done) | (go_simp; kernel_rfl)⟩
              try simp only [Act.put, List.getElem_toArray, List.getElem_cons_succ, List.getElem_cons_zero, List.setIfInBounds_toArray, List.set_cons_zero, List.set_cons_succ]
              refine wpAnyH_take (i := 6) (oi := ?o6_37) (v := .int .i64 ta) ?h6_37 (by kernel_rfl) (by kernel_rfl) (by kernel_rfl) ?q6_37 ?y6_37 hHeld ?r6_37
              case h6_37 => exact rfl
              case q6_37 => exact fun _ _ _ h => h
              case y6_37 => exact Or.inl ⟨by rfl, fun w hw => by (dsimp only at hw); go_simp⟩
              try simp only [Act.put, List.getElem_toArray, List.getElem_cons_succ, List.getElem_cons_zero, List.setIfInBounds_toArray, List.set_cons_zero, List.set_cons_succ]
              refine wpAnyH_take (i := 7) (oi := ?o7_38) (v := .agg #[.int .i64 7, .int .i64 ta]) ?h7_38 (by kernel_rfl) (by kernel_rfl) (by kernel_rfl) ?q7_38 ?y7_38 hHeld ?r7_38
              case h7_38 => exact rfl
              case q7_38 => exact fun _ _ _ h => h
              case y7_38 => exact Or.inl ⟨by rfl, fun w hw => by first | rfl | (go_simp; done) | (go_simp; kernel_rfl)⟩
              try simp only [Act.put, List.getElem_toArray, List.getElem_cons_succ, List.getElem_cons_zero, List.setIfInBounds_toArray, List.set_cons_zero, List.set_cons_succ]
              refine wpAnyH_ready (rs := [8]) (by kernel_rfl) (by simp) ?_
              refine AllReadyH.cons (o := ?o8_39) ?h8_39 (fun K8 hK => ?s8_39) AllReadyH.nil
              case h8_39 => exact rfl
              rw [if_pos (by rfl)]
              refine wpK_store _ _ _ rfl rb 0 (.agg half0) half0 rfl rfl rfl _ _ (show wr.drew.heap[rb]? = _ from HS.out.res) (by kernel_rfl) (Nat.le_of_ble_eq_true (by kernel_rfl)) half0_one _ (set_half0 _ _ _ _ _ _) (fun W2 g p' => ?_)
              have HG2 := Lib.hid g
              have HQ2 := Lib.hid p'
              have HC2 : Hid (W2.cell? ⟨bk, o + i * 4 + 2, none⟩ = some (.int .i64 ta)) := Lib.hid (put_cell p' HNB.out.1 HC.out)
              have HF2 := Lib.hid (p'.other (show wr.drew.heap[fb]? = _ from HS.out.flt) HS.out.ne.symm)
              clear g p'
              refine hK.out _ _ HC2.out (fun hHeld2 => ?_)
              clear hK K8
              try simp only [Act.put, List.getElem_toArray, List.getElem_cons_succ, List.getElem_cons_zero, List.setIfInBounds_toArray, List.set_cons_zero, List.set_cons_succ]
              refine wpAnyH_ready (rs := [9]) (by kernel_rfl) (by simp) ?_
              refine AllReadyH.cons (o := ?o9_40) ?h9_40 (fun K9 hK => ?s9_40) AllReadyH.nil
              case h9_40 => exact rfl
              rw [if_pos (by rfl)]
              refine wpK_store _ _ _ rfl fb 0 (.agg #[.int .i64 7, .int .i64 ta]) #[.int .i64 7, .int .i64 ta] rfl rfl rfl _ _ HF2.out (by kernel_rfl) (Nat.le_of_ble_eq_true (by kernel_rfl)) (all_one2 _ _ rfl rfl) _ (set_flt _ _ _ _) (fun W3 g p' => ?_)
              have HG3 := Lib.hid g
              have HQ3 := Lib.hid p'
              have HR3 := Lib.hid (p'.other HG2.out HS.out.ne)
              have HC3 : Hid (W3.cell? ⟨bk, o + i * 4 + 2, none⟩ = some (.int .i64 ta)) := Lib.hid (put_cell p' HNB.out.2.1 HC2.out)
              clear g p'
              refine hK.out _ _ HC3.out (fun hHeld3 => ?_)
              clear hK K9
              try simp only [Act.put, List.getElem_toArray, List.getElem_cons_succ, List.getElem_cons_zero, List.setIfInBounds_toArray, List.set_cons_zero, List.set_cons_succ]
              refine wpAnyH_done (by kernel_rfl) ?_ _
              go_wp2
              refine bodyPost_ret (results_cells2 rfl _ _ rb fb 53 29 half0 #[.int .i64 7, .int .i64 ta] (0, 0) (0, 0) _ _ rfl HR3.out Try.underlying53 rfl (by kernel_rfl) rfl HG3.out Try.underlying29 rfl (by kernel_rfl)) rfl ?_
              exact half_out (W := W) (rb := rb) (fb := fb) 7 ta (by decide) (HQ3.out.below (HQ2.out.below HS.out.below.drew HS.out.rlo) HS.out.flo) _ rfl
            · skip
              have HC : Hid (wr.drew.cell? ⟨bk, o + i * 4 + 2, none⟩ = some (.int .i64 ta)) := Lib.hid HCX2.out
              go_wp2
              refine wp_region_held_drew (S := fun w' => w'.cell? ⟨bk, o + i * 4 + 2, none⟩ = some (.int .i64 ta)) (by kernel_rfl) HC.out (fun hHeld => ?_)
              refine wpAnyH_take (i := 0) (oi := ?o0_41) (v := .agg half0) ?h0_41 (by kernel_rfl) (by kernel_rfl) (by kernel_rfl) ?q0_41 ?y0_41 hHeld ?r0_41
              case h0_41 => exact rfl
              case q0_41 => exact fun _ _ _ h => h
              case y0_41 => exact Or.inl ⟨by rfl, fun w hw => by first | rfl | (go_simp; done) | (go_simp; kernel_rfl)⟩
              try simp only [Act.put, List.getElem_toArray, List.getElem_cons_succ, List.getElem_cons_zero, List.setIfInBounds_toArray, List.set_cons_zero, List.set_cons_succ]
              refine wpAnyH_take (i := 1) (oi := ?o1_42) (v := .slice AE l.length cE) ?h1_42 (by kernel_rfl) (by kernel_rfl) (by kernel_rfl) ?q1_42 ?y1_42 hHeld ?r1_42
              case h1_42 => exact rfl
              case q1_42 => exact fun _ _ _ h => h
              case y1_42 => exact Or.inl ⟨by rfl, fun w hw => by first | rfl | (go_simp; done) | (go_simp; kernel_rfl)⟩
              try simp only [Act.put, List.getElem_toArray, List.getElem_cons_succ, List.getElem_cons_zero, List.setIfInBounds_toArray, List.set_cons_zero, List.set_cons_succ]
              refine wpAnyH_take (i := 2) (oi := ?o2_43) (v := .int .i64 (i : Int)) ?h2_43 (by kernel_rfl) (by kernel_rfl) (by kernel_rfl) ?q2_43 ?y2_43 hHeld ?r2_43
              case h2_43 => exact rfl
              case q2_43 => exact fun _ _ _ h => h
              case y2_43 => exact Or.inl ⟨by rfl, fun w hw => by first | rfl | (go_simp; done) | (go_simp; kernel_rfl)⟩
              try simp only [Act.put, List.getElem_toArray, List.getElem_cons_succ, List.getElem_cons_zero, List.setIfInBounds_toArray, List.set_cons_zero, List.set_cons_succ]
              refine wpAnyH_take (i := 3) (oi := ?o3_44) (v := .pointer (some ⟨bk, o + i * 4, none⟩)) ?h3_44 (by kernel_rfl) (by kernel_rfl) (by kernel_rfl) ?q3_44 ?y3_44 hHeld ?r3_44
              case h3_44 => exact rfl
              case q3_44 => exact fun _ _ _ h => h
              case y3_44 => exact Or.inl ⟨by rfl, fun w hw => by first | rfl | (go_simp; done) | (go_simp; kernel_rfl)⟩
              try simp only [Act.put, List.getElem_toArray, List.getElem_cons_succ, List.getElem_cons_zero, List.setIfInBounds_toArray, List.set_cons_zero, List.set_cons_succ]
              refine wpAnyH_take (i := 4) (oi := ?o4_45) (v := .pointer (some ⟨bk, o + i * 4, none⟩)) ?h4_45 (by kernel_rfl) (by kernel_rfl) (by kernel_rfl) ?q4_45 ?y4_45 hHeld ?r4_45
              case h4_45 => exact rfl
              case q4_45 => exact fun _ _ _ h => h
              case y4_45 => exact Or.inl ⟨by rfl, fun w hw => by first | rfl | (go_simp; done) | (go_simp; kernel_rfl)⟩
              try simp only [Act.put, List.getElem_toArray, List.getElem_cons_succ, List.getElem_cons_zero, List.setIfInBounds_toArray, List.set_cons_zero, List.set_cons_succ]
              refine wpAnyH_take (i := 5) (oi := ?o5_46) (v := .pointer (some ⟨bk, o + i * 4 + 2, none⟩)) ?h5_46 (by kernel_rfl) (by kernel_rfl) (by kernel_rfl) ?q5_46 ?y5_46 hHeld ?r5_46
              case h5_46 => exact rfl
              case q5_46 => exact fun _ _ _ h => h
              case y5_46 => exact Or.inl ⟨by rfl, fun w hw => by first | rfl | (go_simp; done) | (go_simp; kernel_rfl)⟩
              try simp only [Act.put, List.getElem_toArray, List.getElem_cons_succ, List.getElem_cons_zero, List.setIfInBounds_toArray, List.set_cons_zero, List.set_cons_succ]
              refine wpAnyH_take (i := 6) (oi := ?o6_47) (v := .int .i64 ta) ?h6_47 (by kernel_rfl) (by kernel_rfl) (by kernel_rfl) ?q6_47 ?y6_47 hHeld ?r6_47
              case h6_47 => exact rfl
              case q6_47 => exact fun _ _ _ h => h
              case y6_47 => exact Or.inl ⟨by rfl, fun w hw => by (dsimp only at hw); go_simp⟩
              try simp only [Act.put, List.getElem_toArray, List.getElem_cons_succ, List.getElem_cons_zero, List.setIfInBounds_toArray, List.set_cons_zero, List.set_cons_succ]
              refine wpAnyH_take (i := 7) (oi := ?o7_48) (v := .agg #[.int .i64 7, .int .i64 ta]) ?h7_48 (by kernel_rfl) (by kernel_rfl) (by kernel_rfl) ?q7_48 ?y7_48 hHeld ?r7_48
              case h7_48 => exact rfl
              case q7_48 => exact fun _ _ _ h => h
              case y7_48 => exact Or.inl ⟨by rfl, fun w hw => by first | rfl | (go_simp; done) | (go_simp; kernel_rfl)⟩
              try simp only [Act.put, List.getElem_toArray, List.getElem_cons_succ, List.getElem_cons_zero, List.setIfInBounds_toArray, List.set_cons_zero, List.set_cons_succ]
              refine wpAnyH_ready (rs := [8]) (by kernel_rfl) (by simp) ?_
              refine AllReadyH.cons (o := ?o8_49) ?h8_49 (fun K8 hK => ?s8_49) AllReadyH.nil
              case h8_49 => exact rfl
              rw [if_pos (by rfl)]
              refine wpK_store _ _ _ rfl rb 0 (.agg half0) half0 rfl rfl rfl _ _ (show wr.drew.heap[rb]? = _ from HS.out.res) (by kernel_rfl) (Nat.le_of_ble_eq_true (by kernel_rfl)) half0_one _ (set_half0 _ _ _ _ _ _) (fun W2 g p' => ?_)
              have HG2 := Lib.hid g
              have HQ2 := Lib.hid p'
              have HC2 : Hid (W2.cell? ⟨bk, o + i * 4 + 2, none⟩ = some (.int .i64 ta)) := Lib.hid (put_cell p' HNB.out.1 HC.out)
              have HF2 := Lib.hid (p'.other (show wr.drew.heap[fb]? = _ from HS.out.flt) HS.out.ne.symm)
              clear g p'
              refine hK.out _ _ HC2.out (fun hHeld2 => ?_)
              clear hK K8
              try simp only [Act.put, List.getElem_toArray, List.getElem_cons_succ, List.getElem_cons_zero, List.setIfInBounds_toArray, List.set_cons_zero, List.set_cons_succ]
              refine wpAnyH_ready (rs := [9]) (by kernel_rfl) (by simp) ?_
              refine AllReadyH.cons (o := ?o9_50) ?h9_50 (fun K9 hK => ?s9_50) AllReadyH.nil
              case h9_50 => exact rfl
              rw [if_pos (by rfl)]
              refine wpK_store _ _ _ rfl fb 0 (.agg #[.int .i64 7, .int .i64 ta]) #[.int .i64 7, .int .i64 ta] rfl rfl rfl _ _ HF2.out (by kernel_rfl) (Nat.le_of_ble_eq_true (by kernel_rfl)) (all_one2 _ _ rfl rfl) _ (set_flt _ _ _ _) (fun W3 g p' => ?_)
              have HG3 := Lib.hid g
              have HQ3 := Lib.hid p'
              have HR3 := Lib.hid (p'.other HG2.out HS.out.ne)
              have HC3 : Hid (W3.cell? ⟨bk, o + i * 4 + 2, none⟩ = some (.int .i64 ta)) := Lib.hid (put_cell p' HNB.out.2.1 HC2.out)
              clear g p'
              refine hK.out _ _ HC3.out (fun hHeld3 => ?_)
              clear hK K9
              try simp only [Act.put, List.getElem_toArray, List.getElem_cons_succ, List.getElem_cons_zero, List.setIfInBounds_toArray, List.set_cons_zero, List.set_cons_succ]
              refine wpAnyH_done (by kernel_rfl) ?_ _
              go_wp2
              refine bodyPost_ret (results_cells2 rfl _ _ rb fb 53 29 half0 #[.int .i64 7, .int .i64 ta] (0, 0) (0, 0) _ _ rfl HR3.out Try.underlying53 rfl (by kernel_rfl) rfl HG3.out Try.underlying29 rfl (by kernel_rfl)) rfl ?_
              exact half_out (W := W) (rb := rb) (fb := fb) 7 ta (by decide) (HQ3.out.below (HQ2.out.below HS.out.below.drew HS.out.rlo) HS.out.flo) _ rfl
          | true =>
            rcases hsw with ⟨ha, d0⟩ | ⟨ha, d0, d1⟩ | ⟨ha, d0, d1, d2⟩ | ⟨ha, d0, d1, d2, d3⟩ | ⟨ha, d0, d1, d2, d3⟩
            · rw [ha, if_neg (by simp)] at hgo'
              have HG := Lib.hid hgo'
              clear hgo'
              have HC : Hid (wr.drew.cell? ⟨bk, o + i * 4, none⟩ = some (.int .i32 q)) := Lib.hid HCX0.out
              go_wp2
              refine wp_region_held_drew (S := fun w' => w'.cell? ⟨bk, o + i * 4, none⟩ = some (.int .i32 q)) (by kernel_rfl) HC.out (fun hHeld => ?_)
              refine wpAnyH_take (i := 0) (oi := ?o0_51) (v := .int .i64 1) ?h0_51 (by kernel_rfl) (by kernel_rfl) (by kernel_rfl) ?q0_51 ?y0_51 hHeld ?r0_51
              case h0_51 => exact rfl
              case q0_51 => exact fun _ _ _ h => h
              case y0_51 => exact Or.inl ⟨by rfl, fun w hw => by first | rfl | (go_simp; done) | (go_simp; kernel_rfl)⟩
              try simp only [Act.put, List.getElem_toArray, List.getElem_cons_succ, List.getElem_cons_zero, List.setIfInBounds_toArray, List.set_cons_zero, List.set_cons_succ]
              refine wpAnyH_take (i := 1) (oi := ?o1_52) (v := .slice AE l.length cE) ?h1_52 (by kernel_rfl) (by kernel_rfl) (by kernel_rfl) ?q1_52 ?y1_52 hHeld ?r1_52
              case h1_52 => exact rfl
              case q1_52 => exact fun _ _ _ h => h
              case y1_52 => exact Or.inl ⟨by rfl, fun w hw => by first | rfl | (go_simp; done) | (go_simp; kernel_rfl)⟩
              try simp only [Act.put, List.getElem_toArray, List.getElem_cons_succ, List.getElem_cons_zero, List.setIfInBounds_toArray, List.set_cons_zero, List.set_cons_succ]
              refine wpAnyH_take (i := 2) (oi := ?o2_53) (v := .int .i64 (i : Int)) ?h2_53 (by kernel_rfl) (by kernel_rfl) (by kernel_rfl) ?q2_53 ?y2_53 hHeld ?r2_53
              case h2_53 => exact rfl
              case q2_53 => exact fun _ _ _ h => h
              case y2_53 => exact Or.inl ⟨by rfl, fun w hw => by first | rfl | (go_simp; done) | (go_simp; kernel_rfl)⟩
              try simp only [Act.put, List.getElem_toArray, List.getElem_cons_succ, List.getElem_cons_zero, List.setIfInBounds_toArray, List.set_cons_zero, List.set_cons_succ]
              refine wpAnyH_take (i := 3) (oi := ?o3_54) (v := .pointer (some ⟨bk, o + i * 4, none⟩)) ?h3_54 (by kernel_rfl) (by kernel_rfl) (by kernel_rfl) ?q3_54 ?y3_54 hHeld ?r3_54
              case h3_54 => exact rfl
              case q3_54 => exact fun _ _ _ h => h
              case y3_54 => exact Or.inl ⟨by rfl, fun w hw => by first | rfl | (go_simp; done) | (go_simp; kernel_rfl)⟩
              try simp only [Act.put, List.getElem_toArray, List.getElem_cons_succ, List.getElem_cons_zero, List.setIfInBounds_toArray, List.set_cons_zero, List.set_cons_succ]
              refine wpAnyH_take (i := 4) (oi := ?o4_55) (v := .pointer (some ⟨bk, o + i * 4, none⟩)) ?h4_55 (by kernel_rfl) (by kernel_rfl) (by kernel_rfl) ?q4_55 ?y4_55 hHeld ?r4_55
              case h4_55 => exact rfl
              case q4_55 => exact fun _ _ _ h => h
              case y4_55 => exact Or.inl ⟨by rfl, fun w hw => by first | rfl | (go_simp; done) | (go_simp; kernel_rfl)⟩
              try simp only [Act.put, List.getElem_toArray, List.getElem_cons_succ, List.getElem_cons_zero, List.setIfInBounds_toArray, List.set_cons_zero, List.set_cons_succ]
              refine wpAnyH_take (i := 5) (oi := ?o5_56) (v := .pointer (some ⟨bk, o + i * 4, none⟩)) ?h5_56 (by kernel_rfl) (by kernel_rfl) (by kernel_rfl) ?q5_56 ?y5_56 hHeld ?r5_56
              case h5_56 => exact rfl
              case q5_56 => exact fun _ _ _ h => h
              case y5_56 => exact Or.inl ⟨by rfl, fun w hw => by first | rfl | (go_simp; done) | (go_simp; kernel_rfl)⟩
              try simp only [Act.put, List.getElem_toArray, List.getElem_cons_succ, List.getElem_cons_zero, List.setIfInBounds_toArray, List.set_cons_zero, List.set_cons_succ]
              refine wpAnyH_take (i := 6) (oi := ?o6_57) (v := .int .i32 q) ?h6_57 (by kernel_rfl) (by kernel_rfl) (by kernel_rfl) ?q6_57 ?y6_57 hHeld ?r6_57
              case h6_57 => exact rfl
              case q6_57 => exact fun _ _ _ h => h
              case y6_57 => exact Or.inl ⟨by rfl, fun w hw => by (dsimp only at hw); go_simp⟩
              try simp only [Act.put, List.getElem_toArray, List.getElem_cons_succ, List.getElem_cons_zero, List.setIfInBounds_toArray, List.set_cons_zero, List.set_cons_succ]
              refine wpAnyH_take (i := 7) (oi := ?o7_58) (v := .pointer (some ⟨hb, 22, none⟩)) ?h7_58 (by kernel_rfl) (by kernel_rfl) (by kernel_rfl) ?q7_58 ?y7_58 hHeld ?r7_58
              case h7_58 => exact rfl
              case q7_58 => exact fun _ _ _ h => h
              case y7_58 => exact Or.inl ⟨by rfl, fun w hw => by first | rfl | (go_simp; done) | (go_simp; kernel_rfl)⟩
              try simp only [Act.put, List.getElem_toArray, List.getElem_cons_succ, List.getElem_cons_zero, List.setIfInBounds_toArray, List.set_cons_zero, List.set_cons_succ]
              refine wpAnyH_ready (rs := [8]) (by kernel_rfl) (by simp) ?_
              refine AllReadyH.cons (o := ?o8_59) ?h8_59 (fun K8 hK => ?s8_59) AllReadyH.nil
              case h8_59 => exact rfl
              rw [if_pos (by rfl)]
              refine wpK_store _ _ _ rfl hb 22 (.int .i64 1) #[.int .i64 1] rfl rfl rfl _ _ (show wr.drew.heap[hb]? = _ from HH.out) (by kernel_rfl) (Nat.le_of_ble_eq_true (by kernel_rfl)) (all_one1 _ rfl) _ (set_h22 _ _ _ _ _ _ _) (fun W2 g p' => ?_)
              have HG2 := Lib.hid g
              have HQ2 := Lib.hid p'
              have HC2 : Hid (W2.cell? ⟨bk, o + i * 4, none⟩ = some (.int .i32 q)) := Lib.hid (put_cell p' HNB.out.2.2 HC.out)
              clear g p'
              refine hK.out _ _ HC2.out (fun hHeld2 => ?_)
              clear hK K8
              try simp only [Act.put, List.getElem_toArray, List.getElem_cons_succ, List.getElem_cons_zero, List.setIfInBounds_toArray, List.set_cons_zero, List.set_cons_succ]
              refine wpAnyH_take (i := 9) (oi := ?o9_60) (v := .pointer (some ⟨hb, 23, none⟩)) ?h9_60 (by kernel_rfl) (by kernel_rfl) (by kernel_rfl) ?q9_60 ?y9_60 hHeld2 ?r9_60
              case h9_60 => exact rfl
              case q9_60 => exact fun _ _ _ h => h
              case y9_60 => exact Or.inl ⟨by rfl, fun w hw => by first | rfl | (go_simp; done) | (go_simp; kernel_rfl)⟩
              try simp only [Act.put, List.getElem_toArray, List.getElem_cons_succ, List.getElem_cons_zero, List.setIfInBounds_toArray, List.set_cons_zero, List.set_cons_succ]
              refine wpAnyH_ready (rs := [10]) (by kernel_rfl) (by simp) ?_
              refine AllReadyH.cons (o := ?o10_61) ?h10_61 (fun K10 hK => ?s10_61) AllReadyH.nil
              case h10_61 => exact rfl
              rw [if_pos (by rfl)]
              refine wpK_store _ _ _ rfl hb 23 (.int .i32 q) #[.int .i32 q] rfl rfl rfl _ _ HG2.out (by kernel_rfl) (Nat.le_of_ble_eq_true (by kernel_rfl)) (all_one1 _ rfl) _ (set_h23 _ _ _ _ _ _ _) (fun W3 g p' => ?_)
              have HG3 := Lib.hid g
              have HQ3 := Lib.hid p'
              have HC3 : Hid (W3.cell? ⟨bk, o + i * 4, none⟩ = some (.int .i32 q)) := Lib.hid (put_cell p' HNB.out.2.2 HC2.out)
              clear g p'
              refine hK.out _ _ HC3.out (fun hHeld3 => ?_)
              clear hK K10
              try simp only [Act.put, List.getElem_toArray, List.getElem_cons_succ, List.getElem_cons_zero, List.setIfInBounds_toArray, List.set_cons_zero, List.set_cons_succ]
              refine wpAnyH_done (by kernel_rfl) ?_ _
              go_wp2
              go_roundw
              case rel =>
                have hal := HALL.out
                exact ⟨i + 1, 1, (1, q), by go_num, rfl, by omega, .inr rfl, ((HS.out.step (Below.refl _ _).drew).store HQ2.out hal.1 hal.2.1 hal.2.2.1).store HQ3.out hal.1 hal.2.1 hal.2.2.1, HG3.out, HG⟩
              case measure => simp [RowKit.intOf]; omega
            · rw [ha, if_neg (by simp)] at hgo'
              have HG := Lib.hid hgo'
              clear hgo'
              have HC : Hid (wr.drew.cell? ⟨bk, o + i * 4, none⟩ = some (.int .i32 q)) := Lib.hid HCX0.out
              go_wp2
              refine wp_region_held_drew (S := fun w' => w'.cell? ⟨bk, o + i * 4, none⟩ = some (.int .i32 q)) (by kernel_rfl) HC.out (fun hHeld => ?_)
              refine wpAnyH_take (i := 0) (oi := ?o0_62) (v := .int .i64 2) ?h0_62 (by kernel_rfl) (by kernel_rfl) (by kernel_rfl) ?q0_62 ?y0_62 hHeld ?r0_62
              case h0_62 => exact rfl
              case q0_62 => exact fun _ _ _ h => h
              case y0_62 => exact Or.inl ⟨by rfl, fun w hw => by first | rfl | (go_simp; done) | (go_simp; kernel_rfl)⟩
              try simp only [Act.put, List.getElem_toArray, List.getElem_cons_succ, List.getElem_cons_zero, List.setIfInBounds_toArray, List.set_cons_zero, List.set_cons_succ]
              refine wpAnyH_take (i := 1) (oi := ?o1_63) (v := .slice AE l.length cE) ?h1_63 (by kernel_rfl) (by kernel_rfl) (by kernel_rfl) ?q1_63 ?y1_63 hHeld ?r1_63
              case h1_63 => exact rfl
              case q1_63 => exact fun _ _ _ h => h
              case y1_63 => exact Or.inl ⟨by rfl, fun w hw => by first | rfl | (go_simp; done) | (go_simp; kernel_rfl)⟩
              try simp only [Act.put, List.getElem_toArray, List.getElem_cons_succ, List.getElem_cons_zero, List.setIfInBounds_toArray, List.set_cons_zero, List.set_cons_succ]
              refine wpAnyH_take (i := 2) (oi := ?o2_64) (v := .int .i64 (i : Int)) ?h2_64 (by kernel_rfl) (by kernel_rfl) (by kernel_rfl) ?q2_64 ?y2_64 hHeld ?r2_64
              case h2_64 => exact rfl
              case q2_64 => exact fun _ _ _ h => h
              case y2_64 => exact Or.inl ⟨by rfl, fun w hw => by first | rfl | (go_simp; done) | (go_simp; kernel_rfl)⟩
              try simp only [Act.put, List.getElem_toArray, List.getElem_cons_succ, List.getElem_cons_zero, List.setIfInBounds_toArray, List.set_cons_zero, List.set_cons_succ]
              refine wpAnyH_take (i := 3) (oi := ?o3_65) (v := .pointer (some ⟨bk, o + i * 4, none⟩)) ?h3_65 (by kernel_rfl) (by kernel_rfl) (by kernel_rfl) ?q3_65 ?y3_65 hHeld ?r3_65
              case h3_65 => exact rfl
              case q3_65 => exact fun _ _ _ h => h
              case y3_65 => exact Or.inl ⟨by rfl, fun w hw => by first | rfl | (go_simp; done) | (go_simp; kernel_rfl)⟩
              try simp only [Act.put, List.getElem_toArray, List.getElem_cons_succ, List.getElem_cons_zero, List.setIfInBounds_toArray, List.set_cons_zero, List.set_cons_succ]
              refine wpAnyH_take (i := 4) (oi := ?o4_66) (v := .pointer (some ⟨bk, o + i * 4, none⟩)) ?h4_66 (by kernel_rfl) (by kernel_rfl) (by kernel_rfl) ?q4_66 ?y4_66 hHeld ?r4_66
              case h4_66 => exact rfl
              case q4_66 => exact fun _ _ _ h => h
              case y4_66 => exact Or.inl ⟨by rfl, fun w hw => by first | rfl | (go_simp; done) | (go_simp; kernel_rfl)⟩
              try simp only [Act.put, List.getElem_toArray, List.getElem_cons_succ, List.getElem_cons_zero, List.setIfInBounds_toArray, List.set_cons_zero, List.set_cons_succ]
              refine wpAnyH_take (i := 5) (oi := ?o5_67) (v := .pointer (some ⟨bk, o + i * 4, none⟩)) ?h5_67 (by kernel_rfl) (by kernel_rfl) (by kernel_rfl) ?q5_67 ?y5_67 hHeld ?r5_67
              case h5_67 => exact rfl
              case q5_67 => exact fun _ _ _ h => h
              case y5_67 => exact Or.inl ⟨by rfl, fun w hw => by first | rfl | (go_simp; done) | (go_simp; kernel_rfl)⟩
              try simp only [Act.put, List.getElem_toArray, List.getElem_cons_succ, List.getElem_cons_zero, List.setIfInBounds_toArray, List.set_cons_zero, List.set_cons_succ]
              refine wpAnyH_take (i := 6) (oi := ?o6_68) (v := .int .i32 q) ?h6_68 (by kernel_rfl) (by kernel_rfl) (by kernel_rfl) ?q6_68 ?y6_68 hHeld ?r6_68
              case h6_68 => exact rfl
              case q6_68 => exact fun _ _ _ h => h
              case y6_68 => exact Or.inl ⟨by rfl, fun w hw => by (dsimp only at hw); go_simp⟩
              try simp only [Act.put, List.getElem_toArray, List.getElem_cons_succ, List.getElem_cons_zero, List.setIfInBounds_toArray, List.set_cons_zero, List.set_cons_succ]
              refine wpAnyH_take (i := 7) (oi := ?o7_69) (v := .pointer (some ⟨hb, 22, none⟩)) ?h7_69 (by kernel_rfl) (by kernel_rfl) (by kernel_rfl) ?q7_69 ?y7_69 hHeld ?r7_69
              case h7_69 => exact rfl
              case q7_69 => exact fun _ _ _ h => h
              case y7_69 => exact Or.inl ⟨by rfl, fun w hw => by first | rfl | (go_simp; done) | (go_simp; kernel_rfl)⟩
              try simp only [Act.put, List.getElem_toArray, List.getElem_cons_succ, List.getElem_cons_zero, List.setIfInBounds_toArray, List.set_cons_zero, List.set_cons_succ]
              refine wpAnyH_ready (rs := [8]) (by kernel_rfl) (by simp) ?_
              refine AllReadyH.cons (o := ?o8_70) ?h8_70 (fun K8 hK => ?s8_70) AllReadyH.nil
              case h8_70 => exact rfl
              rw [if_pos (by rfl)]
              refine wpK_store _ _ _ rfl hb 22 (.int .i64 2) #[.int .i64 2] rfl rfl rfl _ _ (show wr.drew.heap[hb]? = _ from HH.out) (by kernel_rfl) (Nat.le_of_ble_eq_true (by kernel_rfl)) (all_one1 _ rfl) _ (set_h22 _ _ _ _ _ _ _) (fun W2 g p' => ?_)
              have HG2 := Lib.hid g
              have HQ2 := Lib.hid p'
              have HC2 : Hid (W2.cell? ⟨bk, o + i * 4, none⟩ = some (.int .i32 q)) := Lib.hid (put_cell p' HNB.out.2.2 HC.out)
              clear g p'
              refine hK.out _ _ HC2.out (fun hHeld2 => ?_)
              clear hK K8
              try simp only [Act.put, List.getElem_toArray, List.getElem_cons_succ, List.getElem_cons_zero, List.setIfInBounds_toArray, List.set_cons_zero, List.set_cons_succ]
              refine wpAnyH_take (i := 9) (oi := ?o9_71) (v := .pointer (some ⟨hb, 23, none⟩)) ?h9_71 (by kernel_rfl) (by kernel_rfl) (by kernel_rfl) ?q9_71 ?y9_71 hHeld2 ?r9_71
              case h9_71 => exact rfl
              case q9_71 => exact fun _ _ _ h => h
              case y9_71 => exact Or.inl ⟨by rfl, fun w hw => by first | rfl | (go_simp; done) | (go_simp; kernel_rfl)⟩
              try simp only [Act.put, List.getElem_toArray, List.getElem_cons_succ, List.getElem_cons_zero, List.setIfInBounds_toArray, List.set_cons_zero, List.set_cons_succ]
              refine wpAnyH_ready (rs := [10]) (by kernel_rfl) (by simp) ?_
              refine AllReadyH.cons (o := ?o10_72) ?h10_72 (fun K10 hK => ?s10_72) AllReadyH.nil
              case h10_72 => exact rfl
              rw [if_pos (by rfl)]
              refine wpK_store _ _ _ rfl hb 23 (.int .i32 q) #[.int .i32 q] rfl rfl rfl _ _ HG2.out (by kernel_rfl) (Nat.le_of_ble_eq_true (by kernel_rfl)) (all_one1 _ rfl) _ (set_h23 _ _ _ _ _ _ _) (fun W3 g p' => ?_)
              have HG3 := Lib.hid g
              have HQ3 := Lib.hid p'
              have HC3 : Hid (W3.cell? ⟨bk, o + i * 4, none⟩ = some (.int .i32 q)) := Lib.hid (put_cell p' HNB.out.2.2 HC2.out)
              clear g p'
              refine hK.out _ _ HC3.out (fun hHeld3 => ?_)
              clear hK K10
              try simp only [Act.put, List.getElem_toArray, List.getElem_cons_succ, List.getElem_cons_zero, List.setIfInBounds_toArray, List.set_cons_zero, List.set_cons_succ]
              refine wpAnyH_done (by kernel_rfl) ?_ _
              go_wp2
              go_roundw
              case rel =>
                have hal := HALL.out
                exact ⟨i + 1, 1, (2, q), by go_num, rfl, by omega, .inr rfl, ((HS.out.step (Below.refl _ _).drew).store HQ2.out hal.1 hal.2.1 hal.2.2.1).store HQ3.out hal.1 hal.2.1 hal.2.2.1, HG3.out, HG⟩
              case measure => simp [RowKit.intOf]; omega
            · rw [ha, if_neg (by simp)] at hgo'
              have HG := Lib.hid hgo'
              clear hgo'
              have HC : Hid (wr.drew.cell? ⟨bk, o + i * 4, none⟩ = some (.int .i32 q)) := Lib.hid HCX0.out
              go_wp2
              refine wp_region_held_drew (S := fun w' => w'.cell? ⟨bk, o + i * 4, none⟩ = some (.int .i32 q)) (by kernel_rfl) HC.out (fun hHeld => ?_)
              refine wpAnyH_take (i := 0) (oi := ?o0_73) (v := .int .i64 3) ?h0_73 (by kernel_rfl) (by kernel_rfl) (by kernel_rfl) ?q0_73 ?y0_73 hHeld ?r0_73
              case h0_73 => exact rfl
              case q0_73 => exact fun _ _ _ h => h
              case y0_73 => exact Or.inl ⟨by rfl, fun w hw => by first | rfl | (go_simp; done) | (go_simp; kernel_rfl)⟩
              try simp only [Act.put, List.getElem_toArray, List.getElem_cons_succ, List.getElem_cons_zero, List.setIfInBounds_toArray, List.set_cons_zero, List.set_cons_succ]
              refine wpAnyH_take (i := 1) (oi := ?o1_74) (v := .slice AE l.length cE) ?h1_74 (by kernel_rfl) (by kernel_rfl) (by kernel_rfl) ?q1_74 ?y1_74 hHeld ?r1_74
              case h1_74 => exact rfl
              case q1_74 => exact fun _ _ _ h => h
              case y1_74 => exact Or.inl ⟨by rfl, fun w hw => by first | rfl | (go_simp; done) | (go_simp; kernel_rfl)⟩
              try simp only [Act.put, List.getElem_toArray, List.getElem_cons_succ, List.getElem_cons_zero, List.setIfInBounds_toArray, List.set_cons_zero, List.set_cons_succ]
              refine wpAnyH_take (i := 2) (oi := ?o2_75) (v := .int .i64 (i : Int)) ?h2_75 (by kernel_rfl) (by kernel_rfl) (by kernel_rfl) ?q2_75 ?y2_75 hHeld ?r2_75
              case h2_75 => exact rfl
              case q2_75 => exact fun _ _ _ h => h
              case y2_75 => exact Or.inl ⟨by rfl, fun w hw => by first | rfl | (go_simp; done) | (go_simp; kernel_rfl)⟩
              try simp only [Act.put, List.getElem_toArray, List.getElem_cons_succ, List.getElem_cons_zero, List.setIfInBounds_toArray, List.set_cons_zero, List.set_cons_succ]
              refine wpAnyH_take (i := 3) (oi := ?o3_76) (v := .pointer (some ⟨bk, o + i * 4, none⟩)) ?h3_76 (by kernel_rfl) (by kernel_rfl) (by kernel_rfl) ?q3_76 ?y3_76 hHeld ?r3_76
              case h3_76 => exact rfl
              case q3_76 => exact fun _ _ _ h => h
              case y3_76 => exact Or.inl ⟨by rfl, fun w hw => by first | rfl | (go_simp; done) | (go_simp; kernel_rfl)⟩
              try simp only [Act.put, List.getElem_toArray, List.getElem_cons_succ, List.getElem_cons_zero, List.setIfInBounds_toArray, List.set_cons_zero, List.set_cons_succ]
              refine wpAnyH_take (i := 4) (oi := ?o4_77) (v := .pointer (some ⟨bk, o + i * 4, none⟩)) ?h4_77 (by kernel_rfl) (by kernel_rfl) (by kernel_rfl) ?q4_77 ?y4_77 hHeld ?r4_77
              case h4_77 => exact rfl
              case q4_77 => exact fun _ _ _ h => h
              case y4_77 => exact Or.inl ⟨by rfl, fun w hw => by first | rfl | (go_simp; done) | (go_simp; kernel_rfl)⟩
              try simp only [Act.put, List.getElem_toArray, List.getElem_cons_succ, List.getElem_cons_zero, List.setIfInBounds_toArray, List.set_cons_zero, List.set_cons_succ]
              refine wpAnyH_take (i := 5) (oi := ?o5_78) (v := .pointer (some ⟨bk, o + i * 4, none⟩)) ?h5_78 (by kernel_rfl) (by kernel_rfl) (by kernel_rfl) ?q5_78 ?y5_78 hHeld ?r5_78
              case h5_78 => exact rfl
              case q5_78 => exact fun _ _ _ h => h
              case y5_78 => exact Or.inl ⟨by rfl, fun w hw => by first | rfl | (go_simp; done) | (go_simp; kernel_rfl)⟩
              try simp only [Act.put, List.getElem_toArray, List.getElem_cons_succ, List.getElem_cons_zero, List.setIfInBounds_toArray, List.set_cons_zero, List.set_cons_succ]
              refine wpAnyH_take (i := 6) (oi := ?o6_79) (v := .int .i32 q) ?h6_79 (by kernel_rfl) (by kernel_rfl) (by kernel_rfl) ?q6_79 ?y6_79 hHeld ?r6_79
              case h6_79 => exact rfl
              case q6_79 => exact fun _ _ _ h => h
              case y6_79 => exact Or.inl ⟨by rfl, fun w hw => by (dsimp only at hw); go_simp⟩
              try simp only [Act.put, List.getElem_toArray, List.getElem_cons_succ, List.getElem_cons_zero, List.setIfInBounds_toArray, List.set_cons_zero, List.set_cons_succ]
              refine wpAnyH_take (i := 7) (oi := ?o7_80) (v := .pointer (some ⟨hb, 22, none⟩)) ?h7_80 (by kernel_rfl) (by kernel_rfl) (by kernel_rfl) ?q7_80 ?y7_80 hHeld ?r7_80
              case h7_80 => exact rfl
              case q7_80 => exact fun _ _ _ h => h
              case y7_80 => exact Or.inl ⟨by rfl, fun w hw => by first | rfl | (go_simp; done) | (go_simp; kernel_rfl)⟩
              try simp only [Act.put, List.getElem_toArray, List.getElem_cons_succ, List.getElem_cons_zero, List.setIfInBounds_toArray, List.set_cons_zero, List.set_cons_succ]
              refine wpAnyH_ready (rs := [8]) (by kernel_rfl) (by simp) ?_
              refine AllReadyH.cons (o := ?o8_81) ?h8_81 (fun K8 hK => ?s8_81) AllReadyH.nil
              case h8_81 => exact rfl
              rw [if_pos (by rfl)]
              refine wpK_store _ _ _ rfl hb 22 (.int .i64 3) #[.int .i64 3] rfl rfl rfl _ _ (show wr.drew.heap[hb]? = _ from HH.out) (by kernel_rfl) (Nat.le_of_ble_eq_true (by kernel_rfl)) (all_one1 _ rfl) _ (set_h22 _ _ _ _ _ _ _) (fun W2 g p' => ?_)
              have HG2 := Lib.hid g
              have HQ2 := Lib.hid p'
              have HC2 : Hid (W2.cell? ⟨bk, o + i * 4, none⟩ = some (.int .i32 q)) := Lib.hid (put_cell p' HNB.out.2.2 HC.out)
              clear g p'
              refine hK.out _ _ HC2.out (fun hHeld2 => ?_)
              clear hK K8
              try simp only [Act.put, List.getElem_toArray, List.getElem_cons_succ, List.getElem_cons_zero, List.setIfInBounds_toArray, List.set_cons_zero, List.set_cons_succ]
              refine wpAnyH_take (i := 9) (oi := ?o9_82) (v := .pointer (some ⟨hb, 23, none⟩)) ?h9_82 (by kernel_rfl) (by kernel_rfl) (by kernel_rfl) ?q9_82 ?y9_82 hHeld2 ?r9_82
              case h9_82 => exact rfl
              case q9_82 => exact fun _ _ _ h => h
              case y9_82 => exact Or.inl ⟨by rfl, fun w hw => by first | rfl | (go_simp; done) | (go_simp; kernel_rfl)⟩
              try simp only [Act.put, List.getElem_toArray, List.getElem_cons_succ, List.getElem_cons_zero, List.setIfInBounds_toArray, List.set_cons_zero, List.set_cons_succ]
              refine wpAnyH_ready (rs := [10]) (by kernel_rfl) (by simp) ?_
              refine AllReadyH.cons (o := ?o10_83) ?h10_83 (fun K10 hK => ?s10_83) AllReadyH.nil
              case h10_83 => exact rfl
              rw [if_pos (by rfl)]
              refine wpK_store _ _ _ rfl hb 23 (.int .i32 q) #[.int .i32 q] rfl rfl rfl _ _ HG2.out (by kernel_rfl) (Nat.le_of_ble_eq_true (by kernel_rfl)) (all_one1 _ rfl) _ (set_h23 _ _ _ _ _ _ _) (fun W3 g p' => ?_)
              have HG3 := Lib.hid g
              have HQ3 := Lib.hid p'
              have HC3 : Hid (W3.cell? ⟨bk, o + i * 4, none⟩ = some (.int .i32 q)) := Lib.hid (put_cell p' HNB.out.2.2 HC2.out)
              clear g p'
              refine hK.out _ _ HC3.out (fun hHeld3 => ?_)
              clear hK K10
              try simp only [Act.put, List.getElem_toArray, List.getElem_cons_succ, List.getElem_cons_zero, List.setIfInBounds_toArray, List.set_cons_zero, List.set_cons_succ]
              refine wpAnyH_done (by kernel_rfl) ?_ _
              go_wp2
              go_roundw
              case rel =>
                have hal := HALL.out
                exact ⟨i + 1, 1, (3, q), by go_num, rfl, by omega, .inr rfl, ((HS.out.step (Below.refl _ _).drew).store HQ2.out hal.1 hal.2.1 hal.2.2.1).store HQ3.out hal.1 hal.2.1 hal.2.2.1, HG3.out, HG⟩
              case measure => simp [RowKit.intOf]; omega
            · rw [ha, if_neg (by simp)] at hgo'
              have HG := Lib.hid hgo'
              clear hgo'
              have HC : Hid (wr.drew.cell? ⟨bk, o + i * 4, none⟩ = some (.int .i32 q)) := Lib.hid HCX0.out
              go_wp2
              refine wp_region_held_drew (S := fun w' => w'.cell? ⟨bk, o + i * 4, none⟩ = some (.int .i32 q)) (by kernel_rfl) HC.out (fun hHeld => ?_)
              refine wpAnyH_take (i := 0) (oi := ?o0_84) (v := .int .i64 4) ?h0_84 (by kernel_rfl) (by kernel_rfl) (by kernel_rfl) ?q0_84 ?y0_84 hHeld ?r0_84
              case h0_84 => exact rfl
              case q0_84 => exact fun _ _ _ h => h
              case y0_84 => exact Or.inl ⟨by rfl, fun w hw => by first | rfl | (go_simp; done) | (go_simp; kernel_rfl)⟩
              try simp only [Act.put, List.getElem_toArray, List.getElem_cons_succ, List.getElem_cons_zero, List.setIfInBounds_toArray, List.set_cons_zero, List.set_cons_succ]
              refine wpAnyH_take (i := 1) (oi := ?o1_85) (v := .slice AE l.length cE) ?h1_85 (by kernel_rfl) (by kernel_rfl) (by kernel_rfl) ?q1_85 ?y1_85 hHeld ?r1_85
              case h1_85 => exact rfl
              case q1_85 => exact fun _ _ _ h => h
              case y1_85 => exact Or.inl ⟨by rfl, fun w hw => by first | rfl | (go_simp; done) | (go_simp; kernel_rfl)⟩
              try simp only [Act.put, List.getElem_toArray, List.getElem_cons_succ, List.getElem_cons_zero, List.setIfInBounds_toArray, List.set_cons_zero, List.set_cons_succ]
              refine wpAnyH_take (i := 2) (oi := ?o2_86) (v := .int .i64 (i : Int)) ?h2_86 (by kernel_rfl) (by kernel_rfl) (by kernel_rfl) ?q2_86 ?y2_86 hHeld ?r2_86
              case h2_86 => exact rfl
              case q2_86 => exact fun _ _ _ h => h
              case y2_86 => exact Or.inl ⟨by rfl, fun w hw => by first | rfl | (go_simp; done) | (go_simp; kernel_rfl)⟩
              try simp only [Act.put, List.getElem_toArray, List.getElem_cons_succ, List.getElem_cons_zero, List.setIfInBounds_toArray, List.set_cons_zero, List.set_cons_succ]
              refine wpAnyH_take (i := 3) (oi := ?o3_87) (v := .pointer (some ⟨bk, o + i * 4, none⟩)) ?h3_87 (by kernel_rfl) (by kernel_rfl) (by kernel_rfl) ?q3_87 ?y3_87 hHeld ?r3_87
              case h3_87 => exact rfl
              case q3_87 => exact fun _ _ _ h => h
              case y3_87 => exact Or.inl ⟨by rfl, fun w hw => by first | rfl | (go_simp; done) | (go_simp; kernel_rfl)⟩
              try simp only [Act.put, List.getElem_toArray, List.getElem_cons_succ, List.getElem_cons_zero, List.setIfInBounds_toArray, List.set_cons_zero, List.set_cons_succ]
              refine wpAnyH_take (i := 4) (oi := ?o4_88) (v := .pointer (some ⟨bk, o + i * 4, none⟩)) ?h4_88 (by kernel_rfl) (by kernel_rfl) (by kernel_rfl) ?q4_88 ?y4_88 hHeld ?r4_88
              case h4_88 => exact rfl
              case q4_88 => exact fun _ _ _ h => h
              case y4_88 => exact Or.inl ⟨by rfl, fun w hw => by first | rfl | (go_simp; done) | (go_simp; kernel_rfl)⟩
              try simp only [Act.put, List.getElem_toArray, List.getElem_cons_succ, List.getElem_cons_zero, List.setIfInBounds_toArray, List.set_cons_zero, List.set_cons_succ]
              refine wpAnyH_take (i := 5) (oi := ?o5_89) (v := .pointer (some ⟨bk, o + i * 4, none⟩)) ?h5_89 (by kernel_rfl) (by kernel_rfl) (by kernel_rfl) ?q5_89 ?y5_89 hHeld ?r5_89
              case h5_89 => exact rfl
              case q5_89 => exact fun _ _ _ h => h
              case y5_89 => exact Or.inl ⟨by rfl, fun w hw => by first | rfl | (go_simp; done) | (go_simp; kernel_rfl)⟩
              try simp only [Act.put, List.getElem_toArray, List.getElem_cons_succ, List.getElem_cons_zero, List.setIfInBounds_toArray, List.set_cons_zero, List.set_cons_succ]
              refine wpAnyH_take (i := 6) (oi := ?o6_90) (v := .int .i32 q) ?h6_90 (by kernel_rfl) (by kernel_rfl) (by kernel_rfl) ?q6_90 ?y6_90 hHeld ?r6_90
              case h6_90 => exact rfl
              case q6_90 => exact fun _ _ _ h => h
              case y6_90 => exact Or.inl ⟨by rfl, fun w hw => by (dsimp only at hw); go_simp⟩
              try simp only [Act.put, List.getElem_toArray, List.getElem_cons_succ, List.getElem_cons_zero, List.setIfInBounds_toArray, List.set_cons_zero, List.set_cons_succ]
              refine wpAnyH_take (i := 7) (oi := ?o7_91) (v := .pointer (some ⟨hb, 22, none⟩)) ?h7_91 (by kernel_rfl) (by kernel_rfl) (by kernel_rfl) ?q7_91 ?y7_91 hHeld ?r7_91
              case h7_91 => exact rfl
              case q7_91 => exact fun _ _ _ h => h
              case y7_91 => exact Or.inl ⟨by rfl, fun w hw => by first | rfl | (go_simp; done) | (go_simp; kernel_rfl)⟩
              try simp only [Act.put, List.getElem_toArray, List.getElem_cons_succ, List.getElem_cons_zero, List.setIfInBounds_toArray, List.set_cons_zero, List.set_cons_succ]
              refine wpAnyH_ready (rs := [8]) (by kernel_rfl) (by simp) ?_
              refine AllReadyH.cons (o := ?o8_92) ?h8_92 (fun K8 hK => ?s8_92) AllReadyH.nil
              case h8_92 => exact rfl
              rw [if_pos (by rfl)]
              refine wpK_store _ _ _ rfl hb 22 (.int .i64 4) #[.int .i64 4] rfl rfl rfl _ _ (show wr.drew.heap[hb]? = _ from HH.out) (by kernel_rfl) (Nat.le_of_ble_eq_true (by kernel_rfl)) (all_one1 _ rfl) _ (set_h22 _ _ _ _ _ _ _) (fun W2 g p' => ?_)
              have HG2 := Lib.hid g
              have HQ2 := Lib.hid p'
              have HC2 : Hid (W2.cell? ⟨bk, o + i * 4, none⟩ = some (.int .i32 q)) := Lib.hid (put_cell p' HNB.out.2.2 HC.out)
              clear g p'
              refine hK.out _ _ HC2.out (fun hHeld2 => ?_)
              clear hK K8
              try simp only [Act.put, List.getElem_toArray, List.getElem_cons_succ, List.getElem_cons_zero, List.setIfInBounds_toArray, List.set_cons_zero, List.set_cons_succ]
              refine wpAnyH_take (i := 9) (oi := ?o9_93) (v := .pointer (some ⟨hb, 23, none⟩)) ?h9_93 (by kernel_rfl) (by kernel_rfl) (by kernel_rfl) ?q9_93 ?y9_93 hHeld2 ?r9_93
              case h9_93 => exact rfl
              case q9_93 => exact fun _ _ _ h => h
              case y9_93 => exact Or.inl ⟨by rfl, fun w hw => by first | rfl | (go_simp; done) | (go_simp; kernel_rfl)⟩
              try simp only [Act.put, List.getElem_toArray, List.getElem_cons_succ, List.getElem_cons_zero, List.setIfInBounds_toArray, List.set_cons_zero, List.set_cons_succ]
              refine wpAnyH_ready (rs := [10]) (by kernel_rfl) (by simp) ?_
              refine AllReadyH.cons (o := ?o10_94) ?h10_94 (fun K10 hK => ?s10_94) AllReadyH.nil
              case h10_94 => exact rfl
              rw [if_pos (by rfl)]
              refine wpK_store _ _ _ rfl hb 23 (.int .i32 q) #[.int .i32 q] rfl rfl rfl _ _ HG2.out (by kernel_rfl) (Nat.le_of_ble_eq_true (by kernel_rfl)) (all_one1 _ rfl) _ (set_h23 _ _ _ _ _ _ _) (fun W3 g p' => ?_)
              have HG3 := Lib.hid g
              have HQ3 := Lib.hid p'
              have HC3 : Hid (W3.cell? ⟨bk, o + i * 4, none⟩ = some (.int .i32 q)) := Lib.hid (put_cell p' HNB.out.2.2 HC2.out)
              clear g p'
              refine hK.out _ _ HC3.out (fun hHeld3 => ?_)
              clear hK K10
              try simp only [Act.put, List.getElem_toArray, List.getElem_cons_succ, List.getElem_cons_zero, List.setIfInBounds_toArray, List.set_cons_zero, List.set_cons_succ]
              refine wpAnyH_done (by kernel_rfl) ?_ _
              go_wp2
              go_roundw
              case rel =>
                have hal := HALL.out
                exact ⟨i + 1, 1, (4, q), by go_num, rfl, by omega, .inr rfl, ((HS.out.step (Below.refl _ _).drew).store HQ2.out hal.1 hal.2.1 hal.2.2.1).store HQ3.out hal.1 hal.2.1 hal.2.2.1, HG3.out, HG⟩
              case measure => simp [RowKit.intOf]; omega
            · rw [if_pos (.inl ha)] at hgo'
              subst hgo'
              (have hrr := HRR.out; simp only [hq] at hrr; subst hrr)
              clear HRR
              have HC : Hid (wr.drew.cell? ⟨bk, o + i * 4 + 2, none⟩ = some (.int .i64 ta)) := Lib.hid HCX2.out
              go_wp2
              refine wp_region_held_drew (S := fun w' => w'.cell? ⟨bk, o + i * 4 + 2, none⟩ = some (.int .i64 ta)) (by kernel_rfl) HC.out (fun hHeld => ?_)
              refine wpAnyH_take (i := 0) (oi := ?o0_95) (v := .agg half0) ?h0_95 (by kernel_rfl) (by kernel_rfl) (by kernel_rfl) ?q0_95 ?y0_95 hHeld ?r0_95
              case h0_95 => exact rfl
              case q0_95 => exact fun _ _ _ h => h
              case y0_95 => exact Or.inl ⟨by rfl, fun w hw => by first | rfl | (go_simp; done) | (go_simp; kernel_rfl)⟩
              try simp only [Act.put, List.getElem_toArray, List.getElem_cons_succ, List.getElem_cons_zero, List.setIfInBounds_toArray, List.set_cons_zero, List.set_cons_succ]
              refine wpAnyH_take (i := 1) (oi := ?o1_96) (v := .slice AE l.length cE) ?h1_96 (by kernel_rfl) (by kernel_rfl) (by kernel_rfl) ?q1_96 ?y1_96 hHeld ?r1_96
              case h1_96 => exact rfl
              case q1_96 => exact fun _ _ _ h => h
              case y1_96 => exact Or.inl ⟨by rfl, fun w hw => by first | rfl | (go_simp; done) | (go_simp; kernel_rfl)⟩
              try simp only [Act.put, List.getElem_toArray, List.getElem_cons_succ, List.getElem_cons_zero, List.setIfInBounds_toArray, List.set_cons_zero, List.set_cons_succ]
              refine wpAnyH_take (i := 2) (oi := ?o2_97) (v := .int .i64 (i : Int)) ?h2_97 (by kernel_rfl) (by kernel_rfl) (by kernel_rfl) ?q2_97 ?y2_97 hHeld ?r2_97
              case h2_97 => exact rfl
              case q2_97 => exact fun _ _ _ h => h
              case y2_97 => exact Or.inl ⟨by rfl, fun w hw => by first | rfl | (go_simp; done) | (go_simp; kernel_rfl)⟩
              try simp only [Act.put, List.getElem_toArray, List.getElem_cons_succ, List.getElem_cons_zero, List.setIfInBounds_toArray, List.set_cons_zero, List.set_cons_succ]
              refine wpAnyH_take (i := 3) (oi := ?o3_98) (v := .pointer (some ⟨bk, o + i * 4, none⟩)) ?h3_98 (by kernel_rfl) (by kernel_rfl) (by kernel_rfl) ?q3_98 ?y3_98 hHeld ?r3_98
              case h3_98 => exact rfl
              case q3_98 => exact fun _ _ _ h => h
              case y3_98 => exact Or.inl ⟨by rfl, fun w hw => by first | rfl | (go_simp; done) | (go_simp; kernel_rfl)⟩
              try simp only [Act.put, List.getElem_toArray, List.getElem_cons_succ, List.getElem_cons_zero, List.setIfInBounds_toArray, List.set_cons_zero, List.set_cons_succ]
              refine wpAnyH_take (i := 4) (oi := ?o4_99) (v := .pointer (some ⟨bk, o + i * 4, none⟩)) ?h4_99 (by kernel_rfl) (by kernel_rfl) (by kernel_rfl) ?q4_99 ?y4_99 hHeld ?r4_99
              case h4_99 => exact rfl
              case q4_99 => exact fun _ _ _ h => h
              case y4_99 => exact Or.inl ⟨by rfl, fun w hw => by first | rfl | (go_simp; done) | (go_simp; kernel_rfl)⟩
              try simp only [Act.put, List.getElem_toArray, List.getElem_cons_succ, List.getElem_cons_zero, List.setIfInBounds_toArray, List.set_cons_zero, List.set_cons_succ]
              refine wpAnyH_take (i := 5) (oi := ?o5_100) (v := .pointer (some ⟨bk, o + i * 4 + 2, none⟩)) ?h5_100 (by kernel_rfl) (by kernel_rfl) (by kernel_rfl) ?q5_100 ?y5_100 hHeld ?r5_100
              case h5_100 => exact rfl
              case q5_100 => exact fun _ _ _ h => h
              case y5_100 => exact Or.inl ⟨by rfl, fun w hw => by first | rfl | (go_simp; done) | (go_simp; kernel_rfl)⟩
              try simp only [Act.put, List.getElem_toArray, List.getElem_cons_succ, List.getElem_cons_zero, List.setIfInBounds_toArray, List.set_cons_zero, List.set_cons_succ]
              refine wpAnyH_take (i := 6) (oi := ?o6_101) (v := .int .i64 ta) ?h6_101 (by kernel_rfl) (by kernel_rfl) (by kernel_rfl) ?q6_101 ?y6_101 hHeld ?r6_101
              case h6_101 => exact rfl
              case q6_101 => exact fun _ _ _ h => h
              case y6_101 => exact Or.inl ⟨by rfl, fun w hw => by (dsimp only at hw); go_simp⟩
              try simp only [Act.put, List.getElem_toArray, List.getElem_cons_succ, List.getElem_cons_zero, List.setIfInBounds_toArray, List.set_cons_zero, List.set_cons_succ]
              refine wpAnyH_take (i := 7) (oi := ?o7_102) (v := .agg #[.int .i64 7, .int .i64 ta]) ?h7_102 (by kernel_rfl) (by kernel_rfl) (by kernel_rfl) ?q7_102 ?y7_102 hHeld ?r7_102
              case h7_102 => exact rfl
              case q7_102 => exact fun _ _ _ h => h
              case y7_102 => exact Or.inl ⟨by rfl, fun w hw => by first | rfl | (go_simp; done) | (go_simp; kernel_rfl)⟩
              try simp only [Act.put, List.getElem_toArray, List.getElem_cons_succ, List.getElem_cons_zero, List.setIfInBounds_toArray, List.set_cons_zero, List.set_cons_succ]
              refine wpAnyH_ready (rs := [8]) (by kernel_rfl) (by simp) ?_
              refine AllReadyH.cons (o := ?o8_103) ?h8_103 (fun K8 hK => ?s8_103) AllReadyH.nil
              case h8_103 => exact rfl
              rw [if_pos (by rfl)]
              refine wpK_store _ _ _ rfl rb 0 (.agg half0) half0 rfl rfl rfl _ _ (show wr.drew.heap[rb]? = _ from HS.out.res) (by kernel_rfl) (Nat.le_of_ble_eq_true (by kernel_rfl)) half0_one _ (set_half0 _ _ _ _ _ _) (fun W2 g p' => ?_)
              have HG2 := Lib.hid g
              have HQ2 := Lib.hid p'
              have HC2 : Hid (W2.cell? ⟨bk, o + i * 4 + 2, none⟩ = some (.int .i64 ta)) := Lib.hid (put_cell p' HNB.out.1 HC.out)
              have HF2 := Lib.hid (p'.other (show wr.drew.heap[fb]? = _ from HS.out.flt) HS.out.ne.symm)
              clear g p'
              refine hK.out _ _ HC2.out (fun hHeld2 => ?_)
              clear hK K8
              try simp only [Act.put, List.getElem_toArray, List.getElem_cons_succ, List.getElem_cons_zero, List.setIfInBounds_toArray, List.set_cons_zero, List.set_cons_succ]
              refine wpAnyH_ready (rs := [9]) (by kernel_rfl) (by simp) ?_
              refine AllReadyH.cons (o := ?o9_104) ?h9_104 (fun K9 hK => ?s9_104) AllReadyH.nil
              case h9_104 => exact rfl
              rw [if_pos (by rfl)]
              refine wpK_store _ _ _ rfl fb 0 (.agg #[.int .i64 7, .int .i64 ta]) #[.int .i64 7, .int .i64 ta] rfl rfl rfl _ _ HF2.out (by kernel_rfl) (Nat.le_of_ble_eq_true (by kernel_rfl)) (all_one2 _ _ rfl rfl) _ (set_flt _ _ _ _) (fun W3 g p' => ?_)
              have HG3 := Lib.hid g
              have HQ3 := Lib.hid p'
              have HR3 := Lib.hid (p'.other HG2.out HS.out.ne)
              have HC3 : Hid (W3.cell? ⟨bk, o + i * 4 + 2, none⟩ = some (.int .i64 ta)) := Lib.hid (put_cell p' HNB.out.2.1 HC2.out)
              clear g p'
              refine hK.out _ _ HC3.out (fun hHeld3 => ?_)
              clear hK K9
              try simp only [Act.put, List.getElem_toArray, List.getElem_cons_succ, List.getElem_cons_zero, List.setIfInBounds_toArray, List.set_cons_zero, List.set_cons_succ]
              refine wpAnyH_done (by kernel_rfl) ?_ _
              go_wp2
              refine bodyPost_ret (results_cells2 rfl _ _ rb fb 53 29 half0 #[.int .i64 7, .int .i64 ta] (0, 0) (0, 0) _ _ rfl HR3.out Try.underlying53 rfl (by kernel_rfl) rfl HG3.out Try.underlying29 rfl (by kernel_rfl)) rfl ?_
              exact half_out (W := W) (rb := rb) (fb := fb) 7 ta (by decide) (HQ3.out.below (HQ2.out.below HS.out.below.drew HS.out.rlo) HS.out.flo) _ rfl
        · rw [if_pos (.inr (.inl (by decide)))] at hgo'
          subst hgo'
          (have hrr := HRR.out; simp only [hq] at hrr; subst hrr)
          clear HRR
          rcases hsw with ⟨ha, d0⟩ | ⟨ha, d0, d1⟩ | ⟨ha, d0, d1, d2⟩ | ⟨ha, d0, d1, d2, d3⟩ | ⟨ha, d0, d1, d2, d3⟩
          · skip
            have HC : Hid (wr.drew.cell? ⟨bk, o + i * 4 + 2, none⟩ = some (.int .i64 ta)) := Lib.hid HCX2.out
            go_wp2
            refine wp_region_held_drew (S := fun w' => w'.cell? ⟨bk, o + i * 4 + 2, none⟩ = some (.int .i64 ta)) (by kernel_rfl) HC.out (fun hHeld => ?_)
            refine wpAnyH_take (i := 0) (oi := ?o0_105) (v := .agg half0) ?h0_105 (by kernel_rfl) (by kernel_rfl) (by kernel_rfl) ?q0_105 ?y0_105 hHeld ?r0_105
            case h0_105 => exact rfl
            case q0_105 => exact fun _ _ _ h => h
            case y0_105 => exact Or.inl ⟨by rfl, fun w hw => by first | rfl | (go_simp; done) | (go_simp; kernel_rfl)⟩
            try simp only [Act.put, List.getElem_toArray, List.getElem_cons_succ, List.getElem_cons_zero, List.setIfInBounds_toArray, List.set_cons_zero, List.set_cons_succ]
            refine wpAnyH_take (i := 1) (oi := ?o1_106) (v := .slice AE l.length cE) ?h1_106 (by kernel_rfl) (by kernel_rfl) (by kernel_rfl) ?q1_106 ?y1_106 hHeld ?r1_106
            case h1_106 => exact rfl
            case q1_106 => exact fun _ _ _ h => h
            case y1_106 => exact Or.inl ⟨by rfl, fun w hw => by first | rfl | (go_simp; done) | (go_simp; kernel_rfl)⟩
            try simp only [Act.put, List.getElem_toArray, List.getElem_cons_succ, List.getElem_cons_zero, List.setIfInBounds_toArray, List.set_cons_zero, List.set_cons_succ]
            refine wpAnyH_take (i := 2) (oi := ?o2_107) (v := .int .i64 (i : Int)) ?h2_107 (by kernel_rfl) (by kernel_rfl) (by kernel_rfl) ?q2_107 ?y2_107 hHeld ?r2_107
            case h2_107 => exact rfl
            case q2_107 => exact fun _ _ _ h => h
            case y2_107 => exact Or.inl ⟨by rfl, fun w hw => by first | rfl | (go_simp; done) | (go_simp; kernel_rfl)⟩
            try simp only [Act.put, List.getElem_toArray, List.getElem_cons_succ, List.getElem_cons_zero, List.setIfInBounds_toArray, List.set_cons_zero, List.set_cons_succ]
            refine wpAnyH_take (i := 3) (oi := ?o3_108) (v := .pointer (some ⟨bk, o + i * 4, none⟩)) ?h3_108 (by kernel_rfl) (by kernel_rfl) (by kernel_rfl) ?q3_108 ?y3_108 hHeld ?r3_108
            case h3_108 => exact rfl
            case q3_108 => exact fun _ _ _ h => h
            case y3_108 => exact Or.inl ⟨by rfl, fun w hw => by first | rfl | (go_simp; done) | (go_simp; kernel_rfl)⟩
            try simp only [Act.put, List.getElem_toArray, List.getElem_cons_succ, List.getElem_cons_zero, List.setIfInBounds_toArray, List.set_cons_zero, List.set_cons_succ]
            refine wpAnyH_take (i := 4) (oi := ?o4_109) (v := .pointer (some ⟨bk, o + i * 4, none⟩)) ?h4_109 (by kernel_rfl) (by kernel_rfl) (by kernel_rfl) ?q4_109 ?y4_109 hHeld ?r4_109
            case h4_109 => exact rfl
            case q4_109 => exact fun _ _ _ h => h
            case y4_109 => exact Or.inl ⟨by rfl, fun w hw => by first | rfl | (go_simp; done) | (go_simp; kernel_rfl)⟩
            try simp only [Act.put, List.getElem_toArray, List.getElem_cons_succ, List.getElem_cons_zero, List.setIfInBounds_toArray, List.set_cons_zero, List.set_cons_succ]
            refine wpAnyH_take (i := 5) (oi := ?o5_110) (v := .pointer (some ⟨bk, o + i * 4 + 2, none⟩)) ?h5_110 (by kernel_rfl) (by kernel_rfl) (by kernel_rfl) ?q5_110 ?y5_110 hHeld ?r5_110
            case h5_110 => exact rfl
            case q5_110 => exact fun _ _ _ h => h
            case y5_110 => exact Or.inl ⟨by rfl, fun w hw => by first | rfl | (go_simp; done) | (go_simp; kernel_rfl)⟩
            try simp only [Act.put, List.getElem_toArray, List.getElem_cons_succ, List.getElem_cons_zero, List.setIfInBounds_toArray, List.set_cons_zero, List.set_cons_succ]
            refine wpAnyH_take (i := 6) (oi := ?o6_111) (v := .int .i64 ta) ?h6_111 (by kernel_rfl) (by kernel_rfl) (by kernel_rfl) ?q6_111 ?y6_111 hHeld ?r6_111
            case h6_111 => exact rfl
            case q6_111 => exact fun _ _ _ h => h
            case y6_111 => exact Or.inl ⟨by rfl, fun w hw => by (dsimp only at hw); go_simp⟩
            try simp only [Act.put, List.getElem_toArray, List.getElem_cons_succ, List.getElem_cons_zero, List.setIfInBounds_toArray, List.set_cons_zero, List.set_cons_succ]
            refine wpAnyH_take (i := 7) (oi := ?o7_112) (v := .agg #[.int .i64 7, .int .i64 ta]) ?h7_112 (by kernel_rfl) (by kernel_rfl) (by kernel_rfl) ?q7_112 ?y7_112 hHeld ?r7_112
            case h7_112 => exact rfl
            case q7_112 => exact fun _ _ _ h => h
            case y7_112 => exact Or.inl ⟨by rfl, fun w hw => by first | rfl | (go_simp; done) | (go_simp; kernel_rfl)⟩
            try simp only [Act.put, List.getElem_toArray, List.getElem_cons_succ, List.getElem_cons_zero, List.setIfInBounds_toArray, List.set_cons_zero, List.set_cons_succ]
            refine wpAnyH_ready (rs := [8]) (by kernel_rfl) (by simp) ?_
            refine AllReadyH.cons (o := ?o8_113) ?h8_113 (fun K8 hK => ?s8_113) AllReadyH.nil
            case h8_113 => exact rfl
            rw [if_pos (by rfl)]
            refine wpK_store _ _ _ rfl rb 0 (.agg half0) half0 rfl rfl rfl _ _ (show wr.drew.heap[rb]? = _ from HS.out.res) (by kernel_rfl) (Nat.le_of_ble_eq_true (by kernel_rfl)) half0_one _ (set_half0 _ _ _ _ _ _) (fun W2 g p' => ?_)
            have HG2 := Lib.hid g
            have HQ2 := Lib.hid p'
            have HC2 : Hid (W2.cell? ⟨bk, o + i * 4 + 2, none⟩ = some (.int .i64 ta)) := Lib.hid (put_cell p' HNB.out.1 HC.out)
            have HF2 := Lib.hid (p'.other (show wr.drew.heap[fb]? = _ from HS.out.flt) HS.out.ne.symm)
            clear g p'
            refine hK.out _ _ HC2.out (fun hHeld2 => ?_)
            clear hK K8
            try simp only [Act.put, List.getElem_toArray, List.getElem_cons_succ, List.getElem_cons_zero, List.setIfInBounds_toArray, List.set_cons_zero, List.set_cons_succ]
            refine wpAnyH_ready (rs := [9]) (by kernel_rfl) (by simp) ?_
            refine AllReadyH.cons (o := ?o9_114) ?h9_114 (fun K9 hK => ?s9_114) AllReadyH.nil
            case h9_114 => exact rfl
            rw [if_pos (by rfl)]
            refine wpK_store _ _ _ rfl fb 0 (.agg #[.int .i64 7, .int .i64 ta]) #[.int .i64 7, .int .i64 ta] rfl rfl rfl _ _ HF2.out (by kernel_rfl) (Nat.le_of_ble_eq_true (by kernel_rfl)) (all_one2 _ _ rfl rfl) _ (set_flt _ _ _ _) (fun W3 g p' => ?_)
            have HG3 := Lib.hid g
            have HQ3 := Lib.hid p'
            have HR3 := Lib.hid (p'.other HG2.out HS.out.ne)
            have HC3 : Hid (W3.cell? ⟨bk, o + i * 4 + 2, none⟩ = some (.int .i64 ta)) := Lib.hid (put_cell p' HNB.out.2.1 HC2.out)
            clear g p'
            refine hK.out _ _ HC3.out (fun hHeld3 => ?_)
            clear hK K9
            try simp only [Act.put, List.getElem_toArray, List.getElem_cons_succ, List.getElem_cons_zero, List.setIfInBounds_toArray, List.set_cons_zero, List.set_cons_succ]
            refine wpAnyH_done (by kernel_rfl) ?_ _
            go_wp2
            refine bodyPost_ret (results_cells2 rfl _ _ rb fb 53 29 half0 #[.int .i64 7, .int .i64 ta] (0, 0) (0, 0) _ _ rfl HR3.out Try.underlying53 rfl (by kernel_rfl) rfl HG3.out Try.underlying29 rfl (by kernel_rfl)) rfl ?_
            exact half_out (W := W) (rb := rb) (fb := fb) 7 ta (by decide) (HQ3.out.below (HQ2.out.below HS.out.below.drew HS.out.rlo) HS.out.flo) _ rfl
          · skip
            have HC : Hid (wr.drew.cell? ⟨bk, o + i * 4 + 2, none⟩ = some (.int .i64 ta)) := Lib.hid HCX2.out
            go_wp2
            refine wp_region_held_drew (S := fun w' => w'.cell? ⟨bk, o + i * 4 + 2, none⟩ = some (.int .i64 ta)) (by kernel_rfl) HC.out (fun hHeld => ?_)
            refine wpAnyH_take (i := 0) (oi := ?o0_115) (v := .agg half0) ?h0_115 (by kernel_rfl) (by kernel_rfl) (by kernel_rfl) ?q0_115 ?y0_115 hHeld ?r0_115
            case h0_115 => exact rfl
            case q0_115 => exact fun _ _ _ h => h
            case y0_115 => exact Or.inl ⟨by rfl, fun w hw => by first | rfl | (go_simp; done) | (go_simp; kernel_rfl)⟩
            try simp only [Act.put, List.getElem_toArray, List.getElem_cons_succ, List.getElem_cons_zero, List.setIfInBounds_toArray, List.set_cons_zero, List.set_cons_succ]
            refine wpAnyH_take (i := 1) (oi := ?o1_116) (v := .slice AE l.length cE) ?h1_116 (by kernel_rfl) (by kernel_rfl) (by kernel_rfl) ?q1_116 ?y1_116 hHeld ?r1_116
            case h1_116 => exact rfl
            case q1_116 => exact fun _ _ _ h => h
            case y1_116 => exact Or.inl ⟨by rfl, fun w hw => by first | rfl | (go_simp; done) | (go_simp; kernel_rfl)⟩
            try simp only [Act.put, List.getElem_toArray, List.getElem_cons_succ, List.getElem_cons_zero, List.setIfInBounds_toArray, List.set_cons_zero, List.set_cons_succ]
            refine wpAnyH_take (i := 2) (oi := ?o2_117) (v := .int .i64 (i : Int)) ?h2_117 (by kernel_rfl) (by kernel_rfl) (by kernel_rfl) ?q2_117 ?y2_117 hHeld ?r2_117
            case h2_117 => exact rfl
            case q2_117 => exact fun _ _ _ h => h
            case y2_117 => exact Or.inl ⟨by rfl, fun w hw => by first | rfl | (go_simp; done) | (go_simp; kernel_rfl)⟩
            try simp only [Act.put, List.getElem_toArray, List.getElem_cons_succ, List.getElem_cons_zero, List.setIfInBounds_toArray, List.set_cons_zero, List.set_cons_succ]
            refine wpAnyH_take (i := 3) (oi := ?o3_118) (v := .pointer (some ⟨bk, o + i * 4, none⟩)) ?h3_118 (by kernel_rfl) (by kernel_rfl) (by kernel_rfl) ?q3_118 ?y3_118 hHeld ?r3_118
            case h3_118 => exact rfl
            case q3_118 => exact fun _ _ _ h => h
            case y3_118 => exact Or.inl ⟨by rfl, fun w hw => by first | rfl | (go_simp; done) | (go_simp; kernel_rfl)⟩
            try simp only [Act.put, List.getElem_toArray, List.getElem_cons_succ, List.getElem_cons_zero, List.setIfInBounds_toArray, List.set_cons_zero, List.set_cons_succ]
            refine wpAnyH_take (i := 4) (oi := ?o4_119) (v := .pointer (some ⟨bk, o + i * 4, none⟩)) ?h4_119 (by kernel_rfl) (by kernel_rfl) (by kernel_rfl) ?q4_119 ?y4_119 hHeld ?r4_119
            case h4_119 => exact rfl
            case q4_119 => exact fun _ _ _ h => h
            case y4_119 => exact Or.inl ⟨by rfl, fun w hw => by first | rfl | (go_simp; done) | (go_simp; kernel_rfl)⟩
            try simp only [Act.put, List.getElem_toArray, List.getElem_cons_succ, List.getElem_cons_zero, List.setIfInBounds_toArray, List.set_cons_zero, List.set_cons_succ]
            refine wpAnyH_take (i := 5) (oi := ?o5_120) (v := .pointer (some ⟨bk, o + i * 4 + 2, none⟩)) ?h5_120 (by kernel_rfl) (by kernel_rfl) (by kernel_rfl) ?q5_120 ?y5_120 hHeld ?r5_120
            case h5_120 => exact rfl
            case q5_120 => exact fun _ _ _ h => h
            case y5_120 => exact Or.inl ⟨by rfl, fun w hw => by first | rfl | (go_simp; done) | (go_simp; kernel_rfl)⟩
            try simp only [Act.put, List.getElem_toArray, List.getElem_cons_succ, List.getElem_cons_zero, List.setIfInBounds_toArray, List.set_cons_zero, List.set_cons_succ]
            refine wpAnyH_take (i := 6) (oi := ?o6_121) (v := .int .i64 ta) ?h6_121 (by kernel_rfl) (by kernel_rfl) (by kernel_rfl) ?q6_121 ?y6_121 hHeld ?r6_121
            case h6_121 => exact rfl
            case q6_121 => exact fun _ _ _ h => h
            case y6_121 => exact Or.inl ⟨by rfl, fun w hw => by (dsimp only at hw); go_simp⟩
            try simp only [Act.put, List.getElem_toArray, List.getElem_cons_succ, List.getElem_cons_zero, List.setIfInBounds_toArray, List.set_cons_zero, List.set_cons_succ]
            refine wpAnyH_take (i := 7) (oi := ?o7_122) (v := .agg #[.int .i64 7, .int .i64 ta]) ?h7_122 (by kernel_rfl) (by kernel_rfl) (by kernel_rfl) ?q7_122 ?y7_122 hHeld ?r7_122
            case h7_122 => exact rfl
            case q7_122 => exact fun _ _ _ h => h
            case y7_122 => exact Or.inl ⟨by rfl, fun w hw => by first | rfl | (go_simp; done) | (go_simp; kernel_rfl)⟩
            try simp only [Act.put, List.getElem_toArray, List.getElem_cons_succ, List.getElem_cons_zero, List.setIfInBounds_toArray, List.set_cons_zero, List.set_cons_succ]
            refine wpAnyH_ready (rs := [8]) (by kernel_rfl) (by simp) ?_
            refine AllReadyH.cons (o := ?o8_123) ?h8_123 (fun K8 hK => ?s8_123) AllReadyH.nil
            case h8_123 => exact rfl
            rw [if_pos (by rfl)]
            refine wpK_store _ _ _ rfl rb 0 (.agg half0) half0 rfl rfl rfl _ _ (show wr.drew.heap[rb]? = _ from HS.out.res) (by kernel_rfl) (Nat.le_of_ble_eq_true (by kernel_rfl)) half0_one _ (set_half0 _ _ _ _ _ _) (fun W2 g p' => ?_)
            have HG2 := Lib.hid g
            have HQ2 := Lib.hid p'
            have HC2 : Hid (W2.cell? ⟨bk, o + i * 4 + 2, none⟩ = some (.int .i64 ta)) := Lib.hid (put_cell p' HNB.out.1 HC.out)
            have HF2 := Lib.hid (p'.other (show wr.drew.heap[fb]? = _ from HS.out.flt) HS.out.ne.symm)
            clear g p'
            refine hK.out _ _ HC2.out (fun hHeld2 => ?_)
            clear hK K8
            try simp only [Act.put, List.getElem_toArray, List.getElem_cons_succ, List.getElem_cons_zero, List.setIfInBounds_toArray, List.set_cons_zero, List.set_cons_succ]
            refine wpAnyH_ready (rs := [9]) (by kernel_rfl) (by simp) ?_
            refine AllReadyH.cons (o := ?o9_124) ?h9_124 (fun K9 hK => ?s9_124) AllReadyH.nil
            case h9_124 => exact rfl
            rw [if_pos (by rfl)]
            refine wpK_store _ _ _ rfl fb 0 (.agg #[.int .i64 7, .int .i64 ta]) #[.int .i64 7, .int .i64 ta] rfl rfl rfl _ _ HF2.out (by kernel_rfl) (Nat.le_of_ble_eq_true (by kernel_rfl)) (all_one2 _ _ rfl rfl) _ (set_flt _ _ _ _) (fun W3 g p' => ?_)
            have HG3 := Lib.hid g
            have HQ3 := Lib.hid p'
            have HR3 := Lib.hid (p'.other HG2.out HS.out.ne)
            have HC3 : Hid (W3.cell? ⟨bk, o + i * 4 + 2, none⟩ = some (.int .i64 ta)) := Lib.hid (put_cell p' HNB.out.2.1 HC2.out)
            clear g p'
            refine hK.out _ _ HC3.out (fun hHeld3 => ?_)
            clear hK K9
            try simp only [Act.put, List.getElem_toArray, List.getElem_cons_succ, List.getElem_cons_zero, List.setIfInBounds_toArray, List.set_cons_zero, List.set_cons_succ]
            refine wpAnyH_done (by kernel_rfl) ?_ _
            go_wp2
            refine bodyPost_ret (results_cells2 rfl _ _ rb fb 53 29 half0 #[.int .i64 7, .int .i64 ta] (0, 0) (0, 0) _ _ rfl HR3.out Try.underlying53 rfl (by kernel_rfl) rfl HG3.out Try.underlying29 rfl (by kernel_rfl)) rfl ?_
            exact half_out (W := W) (rb := rb) (fb := fb) 7 ta (by decide) (HQ3.out.below (HQ2.out.below HS.out.below.drew HS.out.rlo) HS.out.flo) _ rfl
          · skip
            have HC : Hid (wr.drew.cell? ⟨bk, o + i * 4 + 2, none⟩ = some (.int .i64 ta)) := Lib.hid HCX2.out
            go_wp2
            refine wp_region_held_drew (S := fun w' => w'.cell? ⟨bk, o + i * 4 + 2, none⟩ = some (.int .i64 ta)) (by kernel_rfl) HC.out (fun hHeld => ?_)
            refine wpAnyH_take (i := 0) (oi := ?o0_125) (v := .agg half0) ?h0_125 (by kernel_rfl) (by kernel_rfl) (by kernel_rfl) ?q0_125 ?y0_125 hHeld ?r0_125
            case h0_125 => exact rfl
            case q0_125 => exact fun _ _ _ h => h
            case y0_125 => exact Or.inl ⟨by rfl, fun w hw => by first | rfl | (go_simp; done) | (go_simp; kernel_rfl)⟩
            try simp only [Act.put, List.getElem_toArray, List.getElem_cons_succ, List.getElem_cons_zero, List.setIfInBounds_toArray, List.set_cons_zero, List.set_cons_succ]
            refine wpAnyH_take (i := 1) (oi := ?o1_126) (v := .slice AE l.length cE) ?h1_126 (by kernel_rfl) (by kernel_rfl) (by kernel_rfl) ?q1_126 ?y1_126 hHeld ?r1_126
            case h1_126 => exact rfl
            case q1_126 => exact fun _ _ _ h => h
            case y1_126 => exact Or.inl ⟨by rfl, fun w hw => by first | rfl | (go_simp; done) | (go_simp; kernel_rfl)⟩
            try simp only [Act.put, List.getElem_toArray, List.getElem_cons_succ, List.getElem_cons_zero, List.setIfInBounds_toArray, List.set_cons_zero, List.set_cons_succ]
            refine wpAnyH_take (i := 2) (oi := ?o2_127) (v := .int .i64 (i : Int)) ?h2_127 (by kernel_rfl) (by kernel_rfl) (by kernel_rfl) ?q2_127 ?y2_127 hHeld ?r2_127
            case h2_127 => exact rfl
            case q2_127 => exact fun _ _ _ h => h
            case y2_127 => exact Or.inl ⟨by rfl, fun w hw => by first | rfl | (go_simp; done) | (go_simp; kernel_rfl)⟩
            try simp only [Act.put, List.getElem_toArray, List.getElem_cons_succ, List.getElem_cons_zero, List.setIfInBounds_toArray, List.set_cons_zero, List.set_cons_succ]
            refine wpAnyH_take (i := 3) (oi := ?o3_128) (v := .pointer (some ⟨bk, o + i * 4, none⟩)) ?h3_128 (by kernel_rfl) (by kernel_rfl) (by kernel_rfl) ?q3_128 ?y3_128 hHeld ?r3_128
            case h3_128 => exact rfl
            case q3_128 => exact fun _ _ _ h => h
            case y3_128 => exact Or.inl ⟨by rfl, fun w hw => by first | rfl | (go_simp; done) | (go_simp; kernel_rfl)⟩
            try simp only [Act.put, List.getElem_toArray, List.getElem_cons_succ, List.getElem_cons_zero, List.setIfInBounds_toArray, List.set_cons_zero, List.set_cons_succ]
            refine wpAnyH_take (i := 4) (oi := ?o4_129) (v := .pointer (some ⟨bk, o + i * 4, none⟩)) ?h4_129 (by kernel_rfl) (by kernel_rfl) (by kernel_rfl) ?q4_129 ?y4_129 hHeld ?r4_129
            case h4_129 => exact rfl
            case q4_129 => exact fun _ _ _ h => h
            case y4_129 => exact Or.inl ⟨by rfl, fun w hw => by first | rfl | (go_simp; done) | (go_simp; kernel_rfl)⟩
            try simp only [Act.put, List.getElem_toArray, List.getElem_cons_succ, List.getElem_cons_zero, List.setIfInBounds_toArray, List.set_cons_zero, List.set_cons_succ]
            refine wpAnyH_take (i := 5) (oi := ?o5_130) (v := .pointer (some ⟨bk, o + i * 4 + 2, none⟩)) ?h5_130 (by kernel_rfl) (by kernel_rfl) (by kernel_rfl) ?q5_130 ?y5_130 hHeld ?r5_130
            case h5_130 => exact rfl
            case q5_130 => exact fun _ _ _ h => h
            case y5_130 => exact Or.inl ⟨by rfl, fun w hw => by first | rfl | (go_simp; done) | (go_simp; kernel_rfl)⟩
            try simp only [Act.put, List.getElem_toArray, List.getElem_cons_succ, List.getElem_cons_zero, List.setIfInBounds_toArray, List.set_cons_zero, List.set_cons_succ]
            refine wpAnyH_take (i := 6) (oi := ?o6_131) (v := .int .i64 ta) ?h6_131 (by kernel_rfl) (by kernel_rfl) (by kernel_rfl) ?q6_131 ?y6_131 hHeld ?r6_131
            case h6_131 => exact rfl
            case q6_131 => exact fun _ _ _ h => h
            case y6_131 => exact Or.inl ⟨by rfl, fun w hw => by (dsimp only at hw); go_simp⟩
            try simp only [Act.put, List.getElem_toArray, List.getElem_cons_succ, List.getElem_cons_zero, List.setIfInBounds_toArray, List.set_cons_zero, List.set_cons_succ]
            refine wpAnyH_take (i := 7) (oi := ?o7_132) (v := .agg #[.int .i64 7, .int .i64 ta]) ?h7_132 (by kernel_rfl) (by kernel_rfl) (by kernel_rfl) ?q7_132 ?y7_132 hHeld ?r7_132
            case h7_132 => exact rfl
            case q7_132 => exact fun _ _ _ h => h
            case y7_132 => exact Or.inl ⟨by rfl, fun w hw => by first | rfl | (go_simp; done) | (go_simp; kernel_rfl)⟩
            try simp only [Act.put, List.getElem_toArray, List.getElem_cons_succ, List.getElem_cons_zero, List.setIfInBounds_toArray, List.set_cons_zero, List.set_cons_succ]
            refine wpAnyH_ready (rs := [8]) (by kernel_rfl) (by simp) ?_
            refine AllReadyH.cons (o := ?o8_133) ?h8_133 (fun K8 hK => ?s8_133) AllReadyH.nil
            case h8_133 => exact rfl
            rw [if_pos (by rfl)]
            refine wpK_store _ _ _ rfl rb 0 (.agg half0) half0 rfl rfl rfl _ _ (show wr.drew.heap[rb]? = _ from HS.out.res) (by kernel_rfl) (Nat.le_of_ble_eq_true (by kernel_rfl)) half0_one _ (set_half0 _ _ _ _ _ _) (fun W2 g p' => ?_)
            have HG2 := Lib.hid g
            have HQ2 := Lib.hid p'
            have HC2 : Hid (W2.cell? ⟨bk, o + i * 4 + 2, none⟩ = some (.int .i64 ta)) := Lib.hid (put_cell p' HNB.out.1 HC.out)
            have HF2 := Lib.hid (p'.other (show wr.drew.heap[fb]? = _ from HS.out.flt) HS.out.ne.symm)
            clear g p'
            refine hK.out _ _ HC2.out (fun hHeld2 => ?_)
            clear hK K8
            try simp only [Act.put, List.getElem_toArray, List.getElem_cons_succ, List.getElem_cons_zero, List.setIfInBounds_toArray, List.set_cons_zero, List.set_cons_succ]
            refine wpAnyH_ready (rs := [9]) (by kernel_rfl) (by simp) ?_
            refine AllReadyH.cons (o := ?o9_134) ?h9_134 (fun K9 hK => ?s9_134) AllReadyH.nil
            case h9_134 => exact rfl
            rw [if_pos (by rfl)]
            refine wpK_store _ _ _ rfl fb 0 (.agg #[.int .i64 7, .int .i64 ta]) #[.int .i64 7, .int .i64 ta] rfl rfl rfl _ _ HF2.out (by kernel_rfl) (Nat.le_of_ble_eq_true (by kernel_rfl)) (all_one2 _ _ rfl rfl) _ (set_flt _ _ _ _) (fun W3 g p' => ?_)
            have HG3 := Lib.hid g
            have HQ3 := Lib.hid p'
            have HR3 := Lib.hid (p'.other HG2.out HS.out.ne)
            have HC3 : Hid (W3.cell? ⟨bk, o + i * 4 + 2, none⟩ = some (.int .i64 ta)) := Lib.hid (put_cell p' HNB.out.2.1 HC2.out)
            clear g p'
            refine hK.out _ _ HC3.out (fun hHeld3 => ?_)
            clear hK K9
            try simp only [Act.put, List.getElem_toArray, List.getElem_cons_succ, List.getElem_cons_zero, List.setIfInBounds_toArray, List.set_cons_zero, List.set_cons_succ]
            refine wpAnyH_done (by kernel_rfl) ?_ _
            go_wp2
            refine bodyPost_ret (results_cells2 rfl _ _ rb fb 53 29 half0 #[.int .i64 7, .int .i64 ta] (0, 0) (0, 0) _ _ rfl HR3.out Try.underlying53 rfl (by kernel_rfl) rfl HG3.out Try.underlying29 rfl (by kernel_rfl)) rfl ?_
            exact half_out (W := W) (rb := rb) (fb := fb) 7 ta (by decide) (HQ3.out.below (HQ2.out.below HS.out.below.drew HS.out.rlo) HS.out.flo) _ rfl
          · skip
            have HC : Hid (wr.drew.cell? ⟨bk, o + i * 4 + 2, none⟩ = some (.int .i64 ta)) := Lib.hid HCX2.out
            go_wp2
            refine wp_region_held_drew (S := fun w' => w'.cell? ⟨bk, o + i * 4 + 2, none⟩ = some (.int .i64 ta)) (by kernel_rfl) HC.out (fun hHeld => ?_)
            refine wpAnyH_take (i := 0) (oi := ?o0_135) (v := .agg half0) ?h0_135 (by kernel_rfl) (by kernel_rfl) (by kernel_rfl) ?q0_135 ?y0_135 hHeld ?r0_135
            case h0_135 => exact rfl
            case q0_135 => exact fun _ _ _ h => h
            case y0_135 => exact Or.inl ⟨by rfl, fun w hw => by first | rfl | (go_simp; done) | (go_simp; kernel_rfl)⟩
            try simp only [Act.put, List.getElem_toArray, List.getElem_cons_succ, List.getElem_cons_zero, List.setIfInBounds_toArray, List.set_cons_zero, List.set_cons_succ]
            refine wpAnyH_take (i := 1) (oi := ?o1_136) (v := .slice AE l.length cE) ?h1_136 (by kernel_rfl) (by kernel_rfl) (by kernel_rfl) ?q1_136 ?y1_136 hHeld ?r1_136
            case h1_136 => exact rfl
            case q1_136 => exact fun _ _ _ h => h
            case y1_136 => exact Or.inl ⟨by rfl, fun w hw => by first | rfl | (go_simp; done) | (go_simp; kernel_rfl)⟩
            try simp only [Act.put, List.getElem_toArray, List.getElem_cons_succ, List.getElem_cons_zero, List.setIfInBounds_toArray, List.set_cons_zero, List.set_cons_succ]
            refine wpAnyH_take (i := 2) (oi := ?o2_137) (v := .int .i64 (i : Int)) ?h2_137 (by kernel_rfl) (by kernel_rfl) (by kernel_rfl) ?q2_137 ?y2_137 hHeld ?r2_137
            case h2_137 => exact rfl
            case q2_137 => exact fun _ _ _ h => h
            case y2_137 => exact Or.inl ⟨by rfl, fun w hw => by first | rfl | (go_simp; done) | (go_simp; kernel_rfl)⟩
            try simp only [Act.put, List.getElem_toArray, List.getElem_cons_succ, List.getElem_cons_zero, List.setIfInBounds_toArray, List.set_cons_zero, List.set_cons_succ]
            refine wpAnyH_take (i := 3) (oi := ?o3_138) (v := .pointer (some ⟨bk, o + i * 4, none⟩)) ?h3_138 (by kernel_rfl) (by kernel_rfl) (by kernel_rfl) ?q3_138 ?y3_138 hHeld ?r3_138
            case h3_138 => exact rfl
            case q3_138 => exact fun _ _ _ h => h
            case y3_138 => exact Or.inl ⟨by rfl, fun w hw => by first | rfl | (go_simp; done) | (go_simp; kernel_rfl)⟩
            try simp only [Act.put, List.getElem_toArray, List.getElem_cons_succ, List.getElem_cons_zero, List.setIfInBounds_toArray, List.set_cons_zero, List.set_cons_succ]
            refine wpAnyH_take (i := 4) (oi := ?o4_139) (v := .pointer (some ⟨bk, o + i * 4, none⟩)) ?h4_139 (by kernel_rfl) (by kernel_rfl) (by kernel_rfl) ?q4_139 ?y4_139 hHeld ?r4_139
            case h4_139 => exact rfl
            case q4_139 => exact fun _ _ _ h => h
            case y4_139 => exact Or.inl ⟨by rfl, fun w hw => by first | rfl | (go_simp; done) | (go_simp; kernel_rfl)⟩
            try simp only [Act.put, List.getElem_toArray, List.getElem_cons_succ, List.getElem_cons_zero, List.setIfInBounds_toArray, List.set_cons_zero, List.set_cons_succ]
            refine wpAnyH_take (i := 5) (oi := ?o5_140) (v := .pointer (some ⟨bk, o + i * 4 + 2, none⟩)) ?h5_140 (by kernel_rfl) (by kernel_rfl) (by kernel_rfl) ?q5_140 ?y5_140 hHeld ?r5_140
            case h5_140 => exact rfl
            case q5_140 => exact fun _ _ _ h => h
            case y5_140 => exact Or.inl ⟨by rfl, fun w hw => by first | rfl | (go_simp; done) | (go_simp; kernel_rfl)⟩
            try simp only [Act.put, List.getElem_toArray, List.getElem_cons_succ, List.getElem_cons_zero, List.setIfInBounds_toArray, List.set_cons_zero, List.set_cons_succ]
            refine wpAnyH_take (i := 6) (oi := ?o6_141) (v := .int .i64 ta) ?h6_141 (by kernel_rfl) (by kernel_rfl) (by kernel_rfl) ?q6_141 ?y6_141 hHeld ?r6_141
            case h6_141 => exact rfl
            case q6_141 => exact fun _ _ _ h => h
            case y6_141 => exact Or.inl ⟨by rfl, fun w hw => by (dsimp only at hw); go_simp⟩
            try simp only [Act.put, List.getElem_toArray, List.getElem_cons_succ, List.getElem_cons_zero, List.setIfInBounds_toArray, List.set_cons_zero, List.set_cons_succ]
            refine wpAnyH_take (i := 7) (oi := ?o7_142) (v := .agg #[.int .i64 7, .int .i64 ta]) ?h7_142 (by kernel_rfl) (by kernel_rfl) (by kernel_rfl) ?q7_142 ?y7_142 hHeld ?r7_142
            case h7_142 => exact rfl
            case q7_142 => exact fun _ _ _ h => h
            case y7_142 => exact Or.inl ⟨by rfl, fun w hw => by first | rfl | (go_simp; done) | (go_simp; kernel_rfl)⟩
            try simp only [Act.put, List.getElem_toArray, List.getElem_cons_succ, List.getElem_cons_zero, List.setIfInBounds_toArray, List.set_cons_zero, List.set_cons_succ]
            refine wpAnyH_ready (rs := [8]) (by kernel_rfl) (by simp) ?_
            refine AllReadyH.cons (o := ?o8_143) ?h8_143 (fun K8 hK => ?s8_143) AllReadyH.nil
            case h8_143 => exact rfl
            rw [if_pos (by rfl)]
            refine wpK_store _ _ _ rfl rb 0 (.agg half0) half0 rfl rfl rfl _ _ (show wr.drew.heap[rb]? = _ from HS.out.res) (by kernel_rfl) (Nat.le_of_ble_eq_true (by kernel_rfl)) half0_one _ (set_half0 _ _ _ _ _ _) (fun W2 g p' => ?_)
            have HG2 := Lib.hid g
            have HQ2 := Lib.hid p'
            have HC2 : Hid (W2.cell? ⟨bk, o + i * 4 + 2, none⟩ = some (.int .i64 ta)) := Lib.hid (put_cell p' HNB.out.1 HC.out)
            have HF2 := Lib.hid (p'.other (show wr.drew.heap[fb]? = _ from HS.out.flt) HS.out.ne.symm)
            clear g p'
            refine hK.out _ _ HC2.out (fun hHeld2 => ?_)
            clear hK K8
            try simp only [Act.put, List.getElem_toArray, List.getElem_cons_succ, List.getElem_cons_zero, List.setIfInBounds_toArray, List.set_cons_zero, List.set_cons_succ]
            refine wpAnyH_ready (rs := [9]) (by kernel_rfl) (by simp) ?_
            refine AllReadyH.cons (o := ?o9_144) ?h9_144 (fun K9 hK => ?s9_144) AllReadyH.nil
            case h9_144 => exact rfl
            rw [if_pos (by rfl)]
            refine wpK_store _ _ _ rfl fb 0 (.agg #[.int .i64 7, .int .i64 ta]) #[.int .i64 7, .int .i64 ta] rfl rfl rfl _ _ HF2.out (by kernel_rfl) (Nat.le_of_ble_eq_true (by kernel_rfl)) (all_one2 _ _ rfl rfl) _ (set_flt _ _ _ _) (fun W3 g p' => ?_)
            have HG3 := Lib.hid g
            have HQ3 := Lib.hid p'
            have HR3 := Lib.hid (p'.other HG2.out HS.out.ne)
            have HC3 : Hid (W3.cell? ⟨bk, o + i * 4 + 2, none⟩ = some (.int .i64 ta)) := Lib.hid (put_cell p' HNB.out.2.1 HC2.out)
            clear g p'
            refine hK.out _ _ HC3.out (fun hHeld3 => ?_)
            clear hK K9
            try simp only [Act.put, List.getElem_toArray, List.getElem_cons_succ, List.getElem_cons_zero, List.setIfInBounds_toArray, List.set_cons_zero, List.set_cons_succ]
            refine wpAnyH_done (by kernel_rfl) ?_ _
            go_wp2
            refine bodyPost_ret (results_cells2 rfl _ _ rb fb 53 29 half0 #[.int .i64 7, .int .i64 ta] (0, 0) (0, 0) _ _ rfl HR3.out Try.underlying53 rfl (by kernel_rfl) rfl HG3.out Try.underlying29 rfl (by kernel_rfl)) rfl ?_
            exact half_out (W := W) (rb := rb) (fb := fb) 7 ta (by decide) (HQ3.out.below (HQ2.out.below HS.out.below.drew HS.out.rlo) HS.out.flo) _ rfl
          · skip
            have HC : Hid (wr.drew.cell? ⟨bk, o + i * 4 + 2, none⟩ = some (.int .i64 ta)) := Lib.hid HCX2.out
            go_wp2
            refine wp_region_held_drew (S := fun w' => w'.cell? ⟨bk, o + i * 4 + 2, none⟩ = some (.int .i64 ta)) (by kernel_rfl) HC.out (fun hHeld => ?_)
            refine wpAnyH_take (i := 0) (oi := ?o0_145) (v := .agg half0) ?h0_145 (by kernel_rfl) (by kernel_rfl) (by kernel_rfl) ?q0_145 ?y0_145 hHeld ?r0_145
            case h0_145 => exact rfl
            case q0_145 => exact fun _ _ _ h => h
            case y0_145 => exact Or.inl ⟨by rfl, fun w hw => by first | rfl | (go_simp; done) | (go_simp; kernel_rfl)⟩
            try simp only [Act.put, List.getElem_toArray, List.getElem_cons_succ, List.getElem_cons_zero, List.setIfInBounds_toArray, List.set_cons_zero, List.set_cons_succ]
            refine wpAnyH_take (i := 1) (oi := ?o1_146) (v := .slice AE l.length cE) ?h1_146 (by kernel_rfl) (by kernel_rfl) (by kernel_rfl) ?q1_146 ?y1_146 hHeld ?r1_146
            case h1_146 => exact rfl
            case q1_146 => exact fun _ _ _ h => h
            case y1_146 => exact Or.inl ⟨by rfl, fun w hw => by first | rfl | (go_simp; done) | (go_simp; kernel_rfl)⟩
            try simp only [Act.put, List.getElem_toArray, List.getElem_cons_succ, List.getElem_cons_zero, List.setIfInBounds_toArray, List.set_cons_zero, List.set_cons_succ]
            refine wpAnyH_take (i := 2) (oi := ?o2_147) (v := .int .i64 (i : Int)) ?h2_147 (by kernel_rfl) (by kernel_rfl) (by kernel_rfl) ?q2_147 ?y2_147 hHeld ?r2_147
            case h2_147 => exact rfl
            case q2_147 => exact fun _ _ _ h => h
            case y2_147 => exact Or.inl ⟨by rfl, fun w hw => by first | rfl | (go_simp; done) | (go_simp; kernel_rfl)⟩
            try simp only [Act.put, List.getElem_toArray, List.getElem_cons_succ, List.getElem_cons_zero, List.setIfInBounds_toArray, List.set_cons_zero, List.set_cons_succ]
            refine wpAnyH_take (i := 3) (oi := ?o3_148) (v := .pointer (some ⟨bk, o + i * 4, none⟩)) ?h3_148 (by kernel_rfl) (by kernel_rfl) (by kernel_rfl) ?q3_148 ?y3_148 hHeld ?r3_148
            case h3_148 => exact rfl
            case q3_148 => exact fun _ _ _ h => h
            case y3_148 => exact Or.inl ⟨by rfl, fun w hw => by first | rfl | (go_simp; done) | (go_simp; kernel_rfl)⟩
            try simp only [Act.put, List.getElem_toArray, List.getElem_cons_succ, List.getElem_cons_zero, List.setIfInBounds_toArray, List.set_cons_zero, List.set_cons_succ]
            refine wpAnyH_take (i := 4) (oi := ?o4_149) (v := .pointer (some ⟨bk, o + i * 4, none⟩)) ?h4_149 (by kernel_rfl) (by kernel_rfl) (by kernel_rfl) ?q4_149 ?y4_149 hHeld ?r4_149
            case h4_149 => exact rfl
            case q4_149 => exact fun _ _ _ h => h
            case y4_149 => exact Or.inl ⟨by rfl, fun w hw => by first | rfl | (go_simp; done) | (go_simp; kernel_rfl)⟩
            try simp only [Act.put, List.getElem_toArray, List.getElem_cons_succ, List.getElem_cons_zero, List.setIfInBounds_toArray, List.set_cons_zero, List.set_cons_succ]
            refine wpAnyH_take (i := 5) (oi := ?o5_150) (v := .pointer (some ⟨bk, o + i * 4 + 2, none⟩)) ?h5_150 (by kernel_rfl) (by kernel_rfl) (by kernel_rfl) ?q5_150 ?y5_150 hHeld ?r5_150
            case h5_150 => exact rfl
            case q5_150 => exact fun _ _ _ h => h
            case y5_150 => exact Or.inl ⟨by rfl, fun w hw => by first | rfl | (go_simp; done) | (go_simp; kernel_rfl)⟩
            try simp only [Act.put, List.getElem_toArray, List.getElem_cons_succ, List.getElem_cons_zero, List.setIfInBounds_toArray, List.set_cons_zero, List.set_cons_succ]
            refine wpAnyH_take (i := 6) (oi := ?o6_151) (v := .int .i64 ta) ?h6_151 (by kernel_rfl) (by kernel_rfl) (by kernel_rfl) ?q6_151 ?y6_151 hHeld ?r6_151
            case h6_151 => exact rfl
            case q6_151 => exact fun _ _ _ h => h
            case y6_151 => exact Or.inl ⟨by rfl, fun w hw => by (dsimp only at hw); go_simp⟩
            try simp only [Act.put, List.getElem_toArray, List.getElem_cons_succ, List.getElem_cons_zero, List.setIfInBounds_toArray, List.set_cons_zero, List.set_cons_succ]
            refine wpAnyH_take (i := 7) (oi := ?o7_152) (v := .agg #[.int .i64 7, .int .i64 ta]) ?h7_152 (by kernel_rfl) (by kernel_rfl) (by kernel_rfl) ?q7_152 ?y7_152 hHeld ?r7_152
            case h7_152 => exact rfl
            case q7_152 => exact fun _ _ _ h => h
            case y7_152 => exact Or.inl ⟨by rfl, fun w hw => by first | rfl | (go_simp; done) | (go_simp; kernel_rfl)⟩
            try simp only [Act.put, List.getElem_toArray, List.getElem_cons_succ, List.getElem_cons_zero, List.setIfInBounds_toArray, List.set_cons_zero, List.set_cons_succ]
            refine wpAnyH_ready (rs := [8]) (by kernel_rfl) (by simp) ?_
            refine AllReadyH.cons (o := ?o8_153) ?h8_153 (fun K8 hK => ?s8_153) AllReadyH.nil
            case h8_153 => exact rfl
            rw [if_pos (by rfl)]
            refine wpK_store _ _ _ rfl rb 0 (.agg half0) half0 rfl rfl rfl _ _ (show wr.drew.heap[rb]? = _ from HS.out.res) (by kernel_rfl) (Nat.le_of_ble_eq_true (by kernel_rfl)) half0_one _ (set_half0 _ _ _ _ _ _) (fun W2 g p' => ?_)
            have HG2 := Lib.hid g
            have HQ2 := Lib.hid p'
            have HC2 : Hid (W2.cell? ⟨bk, o + i * 4 + 2, none⟩ = some (.int .i64 ta)) := Lib.hid (put_cell p' HNB.out.1 HC.out)
            have HF2 := Lib.hid (p'.other (show wr.drew.heap[fb]? = _ from HS.out.flt) HS.out.ne.symm)
            clear g p'
            refine hK.out _ _ HC2.out (fun hHeld2 => ?_)
            clear hK K8
            try simp only [Act.put, List.getElem_toArray, List.getElem_cons_succ, List.getElem_cons_zero, List.setIfInBounds_toArray, List.set_cons_zero, List.set_cons_succ]
            refine wpAnyH_ready (rs := [9]) (by kernel_rfl) (by simp) ?_
            refine AllReadyH.cons (o := ?o9_154) ?h9_154 (fun K9 hK => ?s9_154) AllReadyH.nil
            case h9_154 => exact rfl
            rw [if_pos (by rfl)]
            refine wpK_store _ _ _ rfl fb 0 (.agg #[.int .i64 7, .int .i64 ta]) #[.int .i64 7, .int .i64 ta] rfl rfl rfl _ _ HF2.out (by kernel_rfl) (Nat.le_of_ble_eq_true (by kernel_rfl)) (all_one2 _ _ rfl rfl) _ (set_flt _ _ _ _) (fun W3 g p' => ?_)
            have HG3 := Lib.hid g
            have HQ3 := Lib.hid p'
            have HR3 := Lib.hid (p'.other HG2.out HS.out.ne)
            have HC3 : Hid (W3.cell? ⟨bk, o + i * 4 + 2, none⟩ = some (.int .i64 ta)) := Lib.hid (put_cell p' HNB.out.2.1 HC2.out)
            clear g p'
            refine hK.out _ _ HC3.out (fun hHeld3 => ?_)
            clear hK K9
            try simp only [Act.put, List.getElem_toArray, List.getElem_cons_succ, List.getElem_cons_zero, List.setIfInBounds_toArray, List.set_cons_zero, List.set_cons_succ]
            refine wpAnyH_done (by kernel_rfl) ?_ _
            go_wp2
            refine bodyPost_ret (results_cells2 rfl _ _ rb fb 53 29 half0 #[.int .i64 7, .int .i64 ta] (0, 0) (0, 0) _ _ rfl HR3.out Try.underlying53 rfl (by kernel_rfl) rfl HG3.out Try.underlying29 rfl (by kernel_rfl)) rfl ?_
            exact half_out (W := W) (rb := rb) (fb := fb) 7 ta (by decide) (HQ3.out.below (HQ2.out.below HS.out.below.drew HS.out.rlo) HS.out.flo) _ rfl
    · have hie : i = l.length := by omega
      subst hie
      have hgo' := hgo.out
      rw [List.drop_of_length_le (Nat.le_refl _)] at hgo'
      simp only [padsF] at hgo'
      subst hgo'
      (have hrr := HRR.out; simp only [hq] at hrr; subst hrr)
      clear hgo HRR
      go_wp2
      obtain ⟨hhl, hrh, hfh, hE, hn, hl, hen⟩ := HALL.out
      exact hf10 w wr rb fb hb n e AE cE c1 c2 l HS.out HH.out hhl hrh hfh hE hn hl
end Go.Proofs.Ytkgdpgoianimjaa.Print
