/- The reference's half: its beginning, its contract. (Several texts, merged by this session's own program.) -/
import Derived.Test.YtkgdpgoianimjaaKh8
namespace Go.Proofs.Ytkgdpgoianimjaa.Print
variable {v0 v1 v2 v3 v4 v5 v6 v7 v8 v9 v10 v11 v12 v13 v14 v15 v16 v17 v18 v19 v20 v21 v22 v23 v24 v25 v26 v27 v28 v29 v30 v31 v32 v33 v34 v35 v36 v37 v38 v39 v40 v41 v42 v43 v44 v45 v46 v47 v48 v49 v50 v51 v52 v53 v54 v55 v56 v57 v58 v59 v60 v61 v62 v63 v64 v65 v66 v67 v68 v69 v70 v71 v72 v73 v74 v75 v76 v77 v78 v79 v80 v81 v82 v83 v84 v85 v86 v87 v88 v89 v90 v91 v92 v93 v94 v95 v96 v97 v98 v99 v100 v101 v102 v103 v104 v105 v106 v107 v108 v109 v110 v111 v112 v113 v114 v115 v116 v117 v118 v119 v120 v121 v122 v123 v124 v125 v126 v127 v128 v129 v130 v131 v132 v133 v134 v135 v136 v137 v138 v139 v140 v141 v142 v143 v144 v145 v146 v147 v148 v149 v150 v151 v152 v153 v154 v155 v156 v157 v158 v159 v160 v161 v162 v163 v164 v165 v166 v167 v168 v169 v170 v171 v172 v173 v174 v175 v176 v177 v178 v179 v180 v181 v182 v183 v184 v185 v186 v187 v188 v189 v190 v191 v192 v193 v194 v195 v196 v197 v198 v199 v200 v201 v202 v203 v204 v205 v206 v207 v208 v209 v210 v211 v212 v213 v214 v215 v216 v217 v218 v219 v220 v221 v222 v223 v224 v225 v226 v227 v228 v229 v230 v231 v232 v233 v234 v235 v236 v237 v238 v239 v240 v241 v242 v243 v244 v245 v246 : Value}
open Go.RowKit Go.Proofs.Ytkgdpgoianimjaa.Utf Go.Proofs.YtkgdpgoianimjaaW.PrintWords Go.Proofs.YtkgdpgoianimjaaW.PrintLast Go.Proofs.YtkgdpgoianimjaaW.PrintMore
set_option linter.unusedVariables false
set_option linter.unusedSimpArgs false
/-- An element, as a walk reads it. -/
theorem el_get {w W : World} {AE : Option Addr} {l : List El} (hE : Kd.C kEl w AE l.length l) (hb : Below w.heap.size w W) (i : Nat) (hi : i < l.length) (cE : Nat) :
    ∃ x bk o, l[i]? = some x ∧ (∀ W, (Instr.indexAt 46 (.slice AE l.length cE) (.int .i64 (i : Int))).run Try.prog W = .ok (.pointer (some ⟨bk, o, none⟩)) W) ∧
      W.cell? ⟨bk, o, none⟩ = some (.int .i32 x.t.f0) ∧ W.cell? ⟨bk, o + 1, none⟩ = some (.bool x.t.f1) ∧ W.cell? ⟨bk, o + 2, none⟩ = some (.int .i64 x.t.f2) ∧ W.cell? ⟨bk, o + 3, none⟩ = some (.bool x.p) := by
  obtain ⟨bk, o, hA1, hbk, hcells⟩ := els_at hE (fun e => by rw [e] at hi; simp at hi)
  have hx : l[i]? = some l[i] := List.getElem?_eq_getElem hi
  have hc := hcells i _ hx
  exact ⟨l[i], bk, o + i * 4, hx, fun W => idx_els l.length cE i bk o AE W hA1 hi, (hb.cell (p := ⟨bk, _, none⟩) hbk).trans hc.1, (hb.cell (p := ⟨bk, _, none⟩) hbk).trans hc.2.1, (hb.cell (p := ⟨bk, _, none⟩) hbk).trans hc.2.2.1, (hb.cell (p := ⟨bk, _, none⟩) hbk).trans hc.2.2.2⟩
set_option maxHeartbeats 8000000 in
set_option maxRecDepth 1000000 in
theorem hf7 (w W : World) (rb fb n e : Nat) (AE : Option Addr) (cE : Nat) (first : Bool) (l : List El) (hst : Hst w W rb fb)
    (hE : Kd.C kEl w AE l.length l) (hn : n < l.length) (hl : l.length ≤ 100000000) (hen : e ≤ l.length) :
    Code.wp Try.prog (Hf 7) (bodyPost Try.prog Try.f17 (HPost (h9 n e first l) w)) ⟨#[.slice AE l.length cE,v1, .bool first,v3,v4,v5, .pointer (some ⟨rb, 0, none⟩), .pointer (some ⟨fb, 0, none⟩), .int .i64 (n : Int), .int .i64 (e : Int),v10,v11,v12,v13,v14,v15,v16,v17,v18,v19,v20,v21,v22,v23,v24,v25,v26,v27,v28,v29,v30,v31,v32,v33,v34,v35,v36,v37,v38,v39,v40,v41,v42,v43,v44,v45,v46,v47,v48,v49,v50,v51,v52,v53,v54,v55,v56,v57,v58,v59,v60,v61,v62,v63,v64,v65,v66,v67,v68,v69,v70,v71,v72,v73,v74,v75,v76,v77,v78,v79,v80,v81,v82,v83,v84,v85,v86,v87,v88,v89,v90,v91,v92,v93,v94,v95,v96,v97,v98,v99,v100,v101,v102,v103,v104,v105,v106,v107,v108,v109,v110,v111,v112,v113,v114,v115,v116,v117,v118,v119,v120,v121,v122,v123,v124,v125,v126,v127,v128,v129,v130,v131,v132,v133,v134,v135,v136,v137,v138,v139,v140,v141,v142,v143,v144,v145,v146,v147,v148,v149,v150,v151,v152,v153,v154,v155,v156,v157,v158,v159,v160,v161,v162,v163,v164,v165,v166,v167,v168,v169,v170,v171,v172,v173,v174,v175,v176,v177,v178,v179,v180,v181,v182,v183,v184,v185,v186,v187,v188,v189,v190,v191,v192,v193,v194,v195,v196,v197,v198,v199,v200,v201,v202,v203,v204,v205,v206,v207,v208,v209,v210,v211,v212,v213,v214,v215,v216,v217,v218,v219,v220,v221,v222,v223,v224,v225,v226,v227,v228,v229,v230,v231,v232,v233,v234,v235,v236,v237,v238,v239,v240,v241,v242,v243,v244,v245,v246], []⟩ W := by
  have HS := Lib.hid hst
  have HALL := Lib.hid (And.intro hE (And.intro hn (And.intro hl hen)))
  clear hst hE hn hl hen
  rw [show Hf 7 = .seq (stmtOf 7 hfBody) (.seq (stmtOf 8 hfBody) (Hf 9)) from by kernel_rfl]
  have hz7 : stmtOf 7 hfBody = stmtOf 7 hfBody := rfl
  conv at hz7 => rhs; whnf
  rw [hz7]; clear hz7
  have hz8 : stmtOf 8 hfBody = stmtOf 8 hfBody := rfl
  conv at hz8 => rhs; whnf
  rw [hz8]; clear hz8
  go_wp2_with (first
    | ((with_reducible refine gate_store (t := 53) (p := 10) rfl ?_); refine store_any_event rfl rfl rfl W.heap.size 0 (.agg half0) half0 rfl rfl rfl _ _ (heap_alloc_new W _) (by kernel_rfl) (Nat.le_of_ble_eq_true (by kernel_rfl)) half0_one _ (set_half0 _ _ _ _ _ _) ?_; intro W2 g p'; have HG2 := Lib.hid g; have HQ2 := Lib.hid p'; clear g p'))
  obtain ⟨hE, hn, hl, hen⟩ := HALL.out
  have b2 : Below W.heap.size W W2 := HQ2.out.below (below_alloc (Below.refl _ _) _) (Nat.le_refl _)
  have l1 := blk_lt HS.out.res
  have l2 := blk_lt HS.out.flt
  exact hf9 w W2 rb fb W.heap.size n e AE cE first l (HS.out.step b2) HG2.out HS.out.below.size (by omega) (by omega) hE hn hl hen
set_option maxHeartbeats 8000000 in
set_option maxRecDepth 1000000 in
theorem hf6 (w W : World) (rb fb n j : Nat) (AE : Option Addr) (cE : Nat) (first : Bool) (l : List El) (hj : j = runN bodyB l n) (hst : Hst w W rb fb)
    (hE : Kd.C kEl w AE l.length l) (hn : n < l.length) (hl : l.length ≤ 100000000) :
    Code.wp Try.prog (Hf 6) (bodyPost Try.prog Try.f17 (HPost (h9 n (endF l n) first l) w)) ⟨#[.slice AE l.length cE,v1, .bool first,v3,v4,v5, .pointer (some ⟨rb, 0, none⟩), .pointer (some ⟨fb, 0, none⟩), .int .i64 (n : Int), .int .i64 (j : Int),v10,v11,v12,v13,v14,v15,v16,v17,v18,v19,v20,v21,v22,v23,v24,v25,v26,v27,v28,v29,v30,v31,v32,v33,v34,v35,v36,v37,v38,v39,v40,v41,v42,v43,v44,v45,v46,v47,v48,v49,v50,v51,v52,v53,v54,v55,v56,v57,v58,v59,v60,v61,v62,v63,v64,v65,v66,v67,v68,v69,v70,v71,v72,v73,v74,v75,v76,v77,v78,v79,v80,v81,v82,v83,v84,v85,v86,v87,v88,v89,v90,v91,v92,v93,v94,v95,v96,v97,v98,v99,v100,v101,v102,v103,v104,v105,v106,v107,v108,v109,v110,v111,v112,v113,v114,v115,v116,v117,v118,v119,v120,v121,v122,v123,v124,v125,v126,v127,v128,v129,v130,v131,v132,v133,v134,v135,v136,v137,v138,v139,v140,v141,v142,v143,v144,v145,v146,v147,v148,v149,v150,v151,v152,v153,v154,v155,v156,v157,v158,v159,v160,v161,v162,v163,v164,v165,v166,v167,v168,v169,v170,v171,v172,v173,v174,v175,v176,v177,v178,v179,v180,v181,v182,v183,v184,v185,v186,v187,v188,v189,v190,v191,v192,v193,v194,v195,v196,v197,v198,v199,v200,v201,v202,v203,v204,v205,v206,v207,v208,v209,v210,v211,v212,v213,v214,v215,v216,v217,v218,v219,v220,v221,v222,v223,v224,v225,v226,v227,v228,v229,v230,v231,v232,v233,v234,v235,v236,v237,v238,v239,v240,v241,v242,v243,v244,v245,v246], []⟩ W := by
  have hjl : j ≤ l.length := by rw [hj]; exact runN_le _ _ _ (Nat.le_of_lt hn)
  obtain ⟨e, he⟩ : ∃ e, e = endF l n := ⟨_, rfl⟩
  rw [← he]
  have HS := Lib.hid hst
  have HALL := Lib.hid (And.intro hE (And.intro hn hl))
  have HEE := Lib.hid he
  by_cases h1 : j < l.length
  · obtain ⟨x, bk, o, hx, hia, c0, c1, c2, c3⟩ := el_get hE hst.below j h1 cE
    cases hp : plainB x 69 with
    | false =>
      have hej : e = j := by rw [he]; unfold endF; rw [← hj, hx]; simp [hp]
      have HC : Hid (∀ W, Calls Try.prog 16 #[.agg #[.int .i32 x.t.f0, .bool x.t.f1, .int .i64 x.t.f2, .bool x.p], .int .i32 69] W fun e w' => e = .returned (.bool false) ∧ Below W.heap.size W w') := Lib.hid fun W => by have := plain_at x 69 W; rwa [hp] at this
      subst hej
      clear hst hE hn hl hj hx hp he HEE
      rw [show Hf 6 = .seq (stmtOf 6 hfBody) (Hf 7) from by kernel_rfl]
      have hz6 : stmtOf 6 hfBody = stmtOf 6 hfBody := rfl
      conv at hz6 => rhs; whnf
      rw [hz6]; clear hz6
      go_wp2_with (go_at_call 16; (with_reducible refine (HC.out _).mono ?_); rintro e1 W1 ⟨rfl, b1⟩; have HB1 := Lib.hid b1; clear b1)
      obtain ⟨hE, hn, hl⟩ := HALL.out
      exact hf7 w W1 rb fb n e AE cE first l (HS.out.step HB1.out) hE hn hl hjl
    | true =>
      have HC : Hid (∀ W, Calls Try.prog 16 #[.agg #[.int .i32 x.t.f0, .bool x.t.f1, .int .i64 x.t.f2, .bool x.p], .int .i32 69] W fun e w' => e = .returned (.bool true) ∧ Below W.heap.size W w') := Lib.hid fun W => by have := plain_at x 69 W; rwa [hp] at this
      by_cases h2 : j + 1 < l.length
      · obtain ⟨y, bk2, o2, hy, hia2, d0, d1, d2, d3⟩ := el_get hE hst.below (j + 1) h2 cE
        rw [show (((j + 1 : Nat) : Int)) = (j : Int) + 1 by omega] at hia2
        have hlt : (j : Int) + 1 < (l.length : Int) := by omega
        cases hp2 : plainB y 43 with
        | false =>
          have hee : runN bodyB l (j + 1) = e := by rw [he]; unfold endF; rw [← hj, hx]; simp [hp, hy, hp2]
          have HD : Hid (∀ W, Calls Try.prog 16 #[.agg #[.int .i32 y.t.f0, .bool y.t.f1, .int .i64 y.t.f2, .bool y.p], .int .i32 43] W fun e w' => e = .returned (.bool false) ∧ Below W.heap.size W w') := Lib.hid fun W => by have := plain_at y 43 W; rwa [hp2] at this
          have EC := Lib.hid (And.intro c0 (And.intro c1 (And.intro c2 c3)))
          have ED := Lib.hid (And.intro d0 (And.intro d1 (And.intro d2 d3)))
          have HLT : Hid (bk2 < W.heap.size) := Lib.hid (World.block_lt_of_cell? W _ d0)
          have HKB := Lib.hid hst.below
          have HEE2 := Lib.hid hee
          clear hst hE hn hj hx hp he HEE hy hp2 hee
          rw [show Hf 6 = .seq (stmtOf 6 hfBody) (Hf 7) from by kernel_rfl]
          have hz6 : stmtOf 6 hfBody = stmtOf 6 hfBody := rfl
          conv at hz6 => rhs; whnf
          rw [hz6]; clear hz6
          go_wp2_with (first | (go_at_call 16; (with_reducible refine (HC.out _).mono ?_); rintro e1 W1 ⟨rfl, b1⟩; have HB1 := Lib.hid b1; have f0 := (b1.cell (p := ⟨bk2, o2, none⟩) HLT.out).trans ED.out.1; have f1 := (b1.cell (p := ⟨bk2, o2 + 1, none⟩) HLT.out).trans ED.out.2.1; have f2 := (b1.cell (p := ⟨bk2, o2 + 2, none⟩) HLT.out).trans ED.out.2.2.1; have f3 := (b1.cell (p := ⟨bk2, o2 + 3, none⟩) HLT.out).trans ED.out.2.2.2; clear b1) | (go_at_call 16; (with_reducible refine (HD.out _).mono ?_); rintro e1 W2 ⟨rfl, b1⟩; have HB2 := Lib.hid b1; clear b1))
          go_loopw [9] (fun v9 wx => ∃ i : Nat, v9 = .int .i64 (i : Int) ∧ i ≤ l.length ∧ Hid (runN bodyB l i = e) ∧ Below W.heap.size W wx) (fun v9 wx => l.length - (RowKit.intOf v9).toNat)
          case atStart => exact ⟨j + 1, by go_num, by omega, Lib.hid (HEE2.out), below_step HB1.out HB2.out⟩
          case round =>
            obtain ⟨i, rfl, hil, hgo, hb1⟩ := hrel
            have HB1 := Lib.hid hb1
            have hl := HALL.out.2.2
            clear hb1
            by_cases hi : i < l.length
            · obtain ⟨x, bk, o, hx, hia, c0, c1, c2, c3⟩ := el_get HALL.out.1 (below_step HS.out.below HB1.out) i hi cE
              cases hq : bodyB x with
              | true =>
                have HC : Hid (∀ W, Calls Try.prog 36 #[.agg #[.int .i32 x.t.f0, .bool x.t.f1, .int .i64 x.t.f2, .bool x.p]] W fun e w' => e = .returned (.bool true) ∧ Below W.heap.size W w') := Lib.hid fun W => by have := body_at x W; rwa [hq] at this
                have HG : Hid (runN bodyB l (i + 1) = e) := Lib.hid (by rw [← runN_step hx hq]; exact hgo.out)
                clear hx hq hgo
                go_wp2_with (first | (go_at_call 36; (with_reducible refine (HC.out _).mono ?_); rintro e1 W3 ⟨rfl, b1⟩; have HB3 := Lib.hid b1; clear b1))
                go_roundw
                case rel => exact ⟨i + 1, by go_num, by omega, HG, below_step HB1.out HB3.out⟩
                case measure => simp [RowKit.intOf]; omega
              | false =>
                have HC : Hid (∀ W, Calls Try.prog 36 #[.agg #[.int .i32 x.t.f0, .bool x.t.f1, .int .i64 x.t.f2, .bool x.p]] W fun e w' => e = .returned (.bool false) ∧ Below W.heap.size W w') := Lib.hid fun W => by have := body_at x W; rwa [hq] at this
                have hie : i = e := by have := hgo.out; rwa [runN_stop hx hq] at this
                subst hie
                clear hx hq hgo
                go_wp2_with (first | (go_at_call 36; (with_reducible refine (HC.out _).mono ?_); rintro e1 W3 ⟨rfl, b1⟩; have HB3 := Lib.hid b1; clear b1))
                exact hf7 w W3 rb fb n i AE cE first l (HS.out.step (below_step HB1.out HB3.out)) HALL.out.1 HALL.out.2.1 HALL.out.2.2 hil
            · have hie : i = e := by have := hgo.out; rwa [runN_end (by omega)] at this
              subst hie
              clear hgo
              go_wp2
              exact hf7 w wr rb fb n i AE cE first l (HS.out.step HB1.out) HALL.out.1 HALL.out.2.1 HALL.out.2.2 hil
        | true =>
          have hee : runN bodyB l (j + 2) = e := by rw [he]; unfold endF; rw [← hj, hx]; simp [hp, hy, hp2]
          have HD : Hid (∀ W, Calls Try.prog 16 #[.agg #[.int .i32 y.t.f0, .bool y.t.f1, .int .i64 y.t.f2, .bool y.p], .int .i32 43] W fun e w' => e = .returned (.bool true) ∧ Below W.heap.size W w') := Lib.hid fun W => by have := plain_at y 43 W; rwa [hp2] at this
          have EC := Lib.hid (And.intro c0 (And.intro c1 (And.intro c2 c3)))
          have ED := Lib.hid (And.intro d0 (And.intro d1 (And.intro d2 d3)))
          have HLT : Hid (bk2 < W.heap.size) := Lib.hid (World.block_lt_of_cell? W _ d0)
          have HEE2 := Lib.hid hee
          clear hst hE hn hj hx hp he HEE hy hp2 hee
          rw [show Hf 6 = .seq (stmtOf 6 hfBody) (Hf 7) from by kernel_rfl]
          have hz6 : stmtOf 6 hfBody = stmtOf 6 hfBody := rfl
          conv at hz6 => rhs; whnf
          rw [hz6]; clear hz6
          go_wp2_with (first | (go_at_call 16; (with_reducible refine (HC.out _).mono ?_); rintro e1 W1 ⟨rfl, b1⟩; have HB1 := Lib.hid b1; have f0 := (b1.cell (p := ⟨bk2, o2, none⟩) HLT.out).trans ED.out.1; have f1 := (b1.cell (p := ⟨bk2, o2 + 1, none⟩) HLT.out).trans ED.out.2.1; have f2 := (b1.cell (p := ⟨bk2, o2 + 2, none⟩) HLT.out).trans ED.out.2.2.1; have f3 := (b1.cell (p := ⟨bk2, o2 + 3, none⟩) HLT.out).trans ED.out.2.2.2; clear b1) | (go_at_call 16; (with_reducible refine (HD.out _).mono ?_); rintro e1 W2 ⟨rfl, b1⟩; have HB2 := Lib.hid b1; clear b1))
          go_loopw [9] (fun v9 wx => ∃ i : Nat, v9 = .int .i64 (i : Int) ∧ i ≤ l.length ∧ Hid (runN bodyB l i = e) ∧ Below W.heap.size W wx) (fun v9 wx => l.length - (RowKit.intOf v9).toNat)
          case atStart => exact ⟨j + 2, by go_num, by omega, Lib.hid (HEE2.out), below_step HB1.out HB2.out⟩
          case round =>
            obtain ⟨i, rfl, hil, hgo, hb1⟩ := hrel
            have HB1 := Lib.hid hb1
            have hl := HALL.out.2.2
            clear hb1
            by_cases hi : i < l.length
            · obtain ⟨x, bk, o, hx, hia, c0, c1, c2, c3⟩ := el_get HALL.out.1 (below_step HS.out.below HB1.out) i hi cE
              cases hq : bodyB x with
              | true =>
                have HC : Hid (∀ W, Calls Try.prog 36 #[.agg #[.int .i32 x.t.f0, .bool x.t.f1, .int .i64 x.t.f2, .bool x.p]] W fun e w' => e = .returned (.bool true) ∧ Below W.heap.size W w') := Lib.hid fun W => by have := body_at x W; rwa [hq] at this
                have HG : Hid (runN bodyB l (i + 1) = e) := Lib.hid (by rw [← runN_step hx hq]; exact hgo.out)
                clear hx hq hgo
                go_wp2_with (first | (go_at_call 36; (with_reducible refine (HC.out _).mono ?_); rintro e1 W3 ⟨rfl, b1⟩; have HB3 := Lib.hid b1; clear b1))
                go_roundw
                case rel => exact ⟨i + 1, by go_num, by omega, HG, below_step HB1.out HB3.out⟩
                case measure => simp [RowKit.intOf]; omega
              | false =>
                have HC : Hid (∀ W, Calls Try.prog 36 #[.agg #[.int .i32 x.t.f0, .bool x.t.f1, .int .i64 x.t.f2, .bool x.p]] W fun e w' => e = .returned (.bool false) ∧ Below W.heap.size W w') := Lib.hid fun W => by have := body_at x W; rwa [hq] at this
                have hie : i = e := by have := hgo.out; rwa [runN_stop hx hq] at this
                subst hie
                clear hx hq hgo
                go_wp2_with (first | (go_at_call 36; (with_reducible refine (HC.out _).mono ?_); rintro e1 W3 ⟨rfl, b1⟩; have HB3 := Lib.hid b1; clear b1))
                exact hf7 w W3 rb fb n i AE cE first l (HS.out.step (below_step HB1.out HB3.out)) HALL.out.1 HALL.out.2.1 HALL.out.2.2 hil
            · have hie : i = e := by have := hgo.out; rwa [runN_end (by omega)] at this
              subst hie
              clear hgo
              go_wp2
              exact hf7 w wr rb fb n i AE cE first l (HS.out.step HB1.out) HALL.out.1 HALL.out.2.1 HALL.out.2.2 hil
      · have hee : runN bodyB l (j + 1) = e := by
          rw [he]; unfold endF; rw [← hj, hx]; simp [hp, List.getElem?_eq_none (Nat.le_of_not_lt h2)]
          exact runN_end (by omega)
        have hlt : ¬ ((j : Int) + 1 < (l.length : Int)) := by omega
        have HEE2 := Lib.hid hee
        clear hst hE hn hj hx hp he HEE hee
        rw [show Hf 6 = .seq (stmtOf 6 hfBody) (Hf 7) from by kernel_rfl]
        have hz6 : stmtOf 6 hfBody = stmtOf 6 hfBody := rfl
        conv at hz6 => rhs; whnf
        rw [hz6]; clear hz6
        go_wp2_with (first | (go_at_call 16; (with_reducible refine (HC.out _).mono ?_); rintro e1 W1 ⟨rfl, b1⟩; have HB1 := Lib.hid b1; clear b1))
        go_loopw [9] (fun v9 wx => ∃ i : Nat, v9 = .int .i64 (i : Int) ∧ i ≤ l.length ∧ Hid (runN bodyB l i = e) ∧ Below W.heap.size W wx) (fun v9 wx => l.length - (RowKit.intOf v9).toNat)
        case atStart => exact ⟨j + 1, by go_num, by omega, Lib.hid (HEE2.out), HB1.out⟩
        case round =>
          obtain ⟨i, rfl, hil, hgo, hb1⟩ := hrel
          have HB1 := Lib.hid hb1
          have hl := HALL.out.2.2
          clear hb1
          by_cases hi : i < l.length
          · obtain ⟨x, bk, o, hx, hia, c0, c1, c2, c3⟩ := el_get HALL.out.1 (below_step HS.out.below HB1.out) i hi cE
            cases hq : bodyB x with
            | true =>
              have HC : Hid (∀ W, Calls Try.prog 36 #[.agg #[.int .i32 x.t.f0, .bool x.t.f1, .int .i64 x.t.f2, .bool x.p]] W fun e w' => e = .returned (.bool true) ∧ Below W.heap.size W w') := Lib.hid fun W => by have := body_at x W; rwa [hq] at this
              have HG : Hid (runN bodyB l (i + 1) = e) := Lib.hid (by rw [← runN_step hx hq]; exact hgo.out)
              clear hx hq hgo
              go_wp2_with (first | (go_at_call 36; (with_reducible refine (HC.out _).mono ?_); rintro e1 W3 ⟨rfl, b1⟩; have HB3 := Lib.hid b1; clear b1))
              go_roundw
              case rel => exact ⟨i + 1, by go_num, by omega, HG, below_step HB1.out HB3.out⟩
              case measure => simp [RowKit.intOf]; omega
            | false =>
              have HC : Hid (∀ W, Calls Try.prog 36 #[.agg #[.int .i32 x.t.f0, .bool x.t.f1, .int .i64 x.t.f2, .bool x.p]] W fun e w' => e = .returned (.bool false) ∧ Below W.heap.size W w') := Lib.hid fun W => by have := body_at x W; rwa [hq] at this
              have hie : i = e := by have := hgo.out; rwa [runN_stop hx hq] at this
              subst hie
              clear hx hq hgo
              go_wp2_with (first | (go_at_call 36; (with_reducible refine (HC.out _).mono ?_); rintro e1 W3 ⟨rfl, b1⟩; have HB3 := Lib.hid b1; clear b1))
              exact hf7 w W3 rb fb n i AE cE first l (HS.out.step (below_step HB1.out HB3.out)) HALL.out.1 HALL.out.2.1 HALL.out.2.2 hil
          · have hie : i = e := by have := hgo.out; rwa [runN_end (by omega)] at this
            subst hie
            clear hgo
            go_wp2
            exact hf7 w wr rb fb n i AE cE first l (HS.out.step HB1.out) HALL.out.1 HALL.out.2.1 HALL.out.2.2 hil
  · have hej : e = j := by
      rw [he]; unfold endF; rw [← hj, List.getElem?_eq_none (by omega)]
    subst hej
    clear hst hE hn hl hj he HEE
    rw [show Hf 6 = .seq (stmtOf 6 hfBody) (Hf 7) from by kernel_rfl]
    have hz6 : stmtOf 6 hfBody = stmtOf 6 hfBody := rfl
    conv at hz6 => rhs; whnf
    rw [hz6]; clear hz6
    go_wp2
    obtain ⟨hE, hn, hl⟩ := HALL.out
    exact hf7 w W rb fb n e AE cE first l HS.out hE hn hl hjl
set_option maxHeartbeats 8000000 in
set_option maxRecDepth 1000000 in
theorem hf4 (w W : World) (rb fb n : Nat) (AE : Option Addr) (cE : Nat) (first : Bool) (l : List El) (hst : Hst w W rb fb)
    (hE : Kd.C kEl w AE l.length l) (hn : n < l.length) (hl : l.length ≤ 100000000) :
    Code.wp Try.prog (Hf 4) (bodyPost Try.prog Try.f17 (HPost (h9 n (endF l n) first l) w)) ⟨#[.slice AE l.length cE,v1, .bool first,v3,v4,v5, .pointer (some ⟨rb, 0, none⟩), .pointer (some ⟨fb, 0, none⟩), .int .i64 (n : Int),v9,v10,v11,v12,v13,v14,v15,v16,v17,v18,v19,v20,v21,v22,v23,v24,v25,v26,v27,v28,v29,v30,v31,v32,v33,v34,v35,v36,v37,v38,v39,v40,v41,v42,v43,v44,v45,v46,v47,v48,v49,v50,v51,v52,v53,v54,v55,v56,v57,v58,v59,v60,v61,v62,v63,v64,v65,v66,v67,v68,v69,v70,v71,v72,v73,v74,v75,v76,v77,v78,v79,v80,v81,v82,v83,v84,v85,v86,v87,v88,v89,v90,v91,v92,v93,v94,v95,v96,v97,v98,v99,v100,v101,v102,v103,v104,v105,v106,v107,v108,v109,v110,v111,v112,v113,v114,v115,v116,v117,v118,v119,v120,v121,v122,v123,v124,v125,v126,v127,v128,v129,v130,v131,v132,v133,v134,v135,v136,v137,v138,v139,v140,v141,v142,v143,v144,v145,v146,v147,v148,v149,v150,v151,v152,v153,v154,v155,v156,v157,v158,v159,v160,v161,v162,v163,v164,v165,v166,v167,v168,v169,v170,v171,v172,v173,v174,v175,v176,v177,v178,v179,v180,v181,v182,v183,v184,v185,v186,v187,v188,v189,v190,v191,v192,v193,v194,v195,v196,v197,v198,v199,v200,v201,v202,v203,v204,v205,v206,v207,v208,v209,v210,v211,v212,v213,v214,v215,v216,v217,v218,v219,v220,v221,v222,v223,v224,v225,v226,v227,v228,v229,v230,v231,v232,v233,v234,v235,v236,v237,v238,v239,v240,v241,v242,v243,v244,v245,v246], []⟩ W := by
  obtain ⟨e, he⟩ : ∃ e, e = runN bodyB l n := ⟨_, rfl⟩
  obtain ⟨r, hr⟩ : ∃ r, r = h9 n (endF l n) first l := ⟨_, rfl⟩
  rw [← hr]
  have HR := Lib.hid hr
  have HEE := Lib.hid he
  have HS := Lib.hid hst
  have HALL := Lib.hid (And.intro hE (And.intro hn hl))
  clear hst hE he hr
  rw [show Hf 4 = .seq (stmtOf 4 hfBody) (.seq (stmtOf 5 hfBody) (Hf 6)) from by kernel_rfl]
  have hz4 : stmtOf 4 hfBody = stmtOf 4 hfBody := rfl
  conv at hz4 => rhs; whnf
  rw [hz4]; clear hz4
  have hz5 : stmtOf 5 hfBody = stmtOf 5 hfBody := rfl
  conv at hz5 => rhs; whnf
  rw [hz5]; clear hz5
  go_wp2
  go_loopw [9] (fun v9 wx => ∃ i : Nat, v9 = .int .i64 (i : Int) ∧ i ≤ l.length ∧ Hid (runN bodyB l i = e) ∧ Below W.heap.size W wx) (fun v9 wx => l.length - (RowKit.intOf v9).toNat)
  case atStart => exact ⟨n, rfl, by omega, Lib.hid (HEE.out.symm), Below.refl _ _⟩
  case round =>
    obtain ⟨i, rfl, hil, hgo, hb1⟩ := hrel
    have HB1 := Lib.hid hb1
    have hl := HALL.out.2.2
    clear hb1
    by_cases hi : i < l.length
    · obtain ⟨x, bk, o, hx, hia, c0, c1, c2, c3⟩ := el_get HALL.out.1 (below_step HS.out.below HB1.out) i hi cE
      cases hq : bodyB x with
      | true =>
        have HC : Hid (∀ W, Calls Try.prog 36 #[.agg #[.int .i32 x.t.f0, .bool x.t.f1, .int .i64 x.t.f2, .bool x.p]] W fun e w' => e = .returned (.bool true) ∧ Below W.heap.size W w') := Lib.hid fun W => by have := body_at x W; rwa [hq] at this
        have HG : Hid (runN bodyB l (i + 1) = e) := Lib.hid (by rw [← runN_step hx hq]; exact hgo.out)
        clear hx hq hgo
        go_wp2_with (first | (go_at_call 36; (with_reducible refine (HC.out _).mono ?_); rintro e1 W3 ⟨rfl, b1⟩; have HB3 := Lib.hid b1; clear b1))
        go_roundw
        case rel => exact ⟨i + 1, by go_num, by omega, HG, below_step HB1.out HB3.out⟩
        case measure => simp [RowKit.intOf]; omega
      | false =>
        have HC : Hid (∀ W, Calls Try.prog 36 #[.agg #[.int .i32 x.t.f0, .bool x.t.f1, .int .i64 x.t.f2, .bool x.p]] W fun e w' => e = .returned (.bool false) ∧ Below W.heap.size W w') := Lib.hid fun W => by have := body_at x W; rwa [hq] at this
        have hie : i = e := by have := hgo.out; rwa [runN_stop hx hq] at this
        subst hie
        clear hx hq hgo
        go_wp2_with (first | (go_at_call 36; (with_reducible refine (HC.out _).mono ?_); rintro e1 W3 ⟨rfl, b1⟩; have HB3 := Lib.hid b1; clear b1))
        (rw [HR.out]; exact hf6 w W3 rb fb n i AE cE first l HEE.out (HS.out.step (below_step HB1.out HB3.out)) HALL.out.1 HALL.out.2.1 HALL.out.2.2)
    · have hie : i = e := by have := hgo.out; rwa [runN_end (by omega)] at this
      subst hie
      clear hgo
      go_wp2
      (rw [HR.out]; exact hf6 w wr rb fb n i AE cE first l HEE.out (HS.out.step HB1.out) HALL.out.1 HALL.out.2.1 HALL.out.2.2)
open Go.RowKit Go.Proofs.Ytkgdpgoianimjaa.Utf Go.Proofs.YtkgdpgoianimjaaW.PrintWords Go.Proofs.YtkgdpgoianimjaaW.PrintLast Go.Proofs.YtkgdpgoianimjaaW.PrintMore
set_option linter.unusedVariables false
set_option linter.unusedSimpArgs false
set_option maxHeartbeats 8000000 in
set_option maxRecDepth 1000000 in
theorem hf3 (w W : World) (rb fb n : Nat) (begin : Int) (AE : Option Addr) (cE : Nat) (first : Bool) (l : List El) (r : Option HalfR) (hr : r = h3 first l n) (hst : Hst w W rb fb)
    (hE : Kd.C kEl w AE l.length l) (hn : n ≤ l.length) (hl : l.length ≤ 100000000) :
    Code.wp Try.prog (Hf 3) (bodyPost Try.prog Try.f17 (HPost r w)) ⟨#[.slice AE l.length cE, .int .i64 begin, .bool first,v3,v4,v5, .pointer (some ⟨rb, 0, none⟩), .pointer (some ⟨fb, 0, none⟩), .int .i64 (n : Int),v9,v10,v11,v12,v13,v14,v15,v16,v17,v18,v19,v20,v21,v22,v23,v24,v25,v26,v27,v28,v29,v30,v31,v32,v33,v34,v35,v36,v37,v38,v39,v40,v41,v42,v43,v44,v45,v46,v47,v48,v49,v50,v51,v52,v53,v54,v55,v56,v57,v58,v59,v60,v61,v62,v63,v64,v65,v66,v67,v68,v69,v70,v71,v72,v73,v74,v75,v76,v77,v78,v79,v80,v81,v82,v83,v84,v85,v86,v87,v88,v89,v90,v91,v92,v93,v94,v95,v96,v97,v98,v99,v100,v101,v102,v103,v104,v105,v106,v107,v108,v109,v110,v111,v112,v113,v114,v115,v116,v117,v118,v119,v120,v121,v122,v123,v124,v125,v126,v127,v128,v129,v130,v131,v132,v133,v134,v135,v136,v137,v138,v139,v140,v141,v142,v143,v144,v145,v146,v147,v148,v149,v150,v151,v152,v153,v154,v155,v156,v157,v158,v159,v160,v161,v162,v163,v164,v165,v166,v167,v168,v169,v170,v171,v172,v173,v174,v175,v176,v177,v178,v179,v180,v181,v182,v183,v184,v185,v186,v187,v188,v189,v190,v191,v192,v193,v194,v195,v196,v197,v198,v199,v200,v201,v202,v203,v204,v205,v206,v207,v208,v209,v210,v211,v212,v213,v214,v215,v216,v217,v218,v219,v220,v221,v222,v223,v224,v225,v226,v227,v228,v229,v230,v231,v232,v233,v234,v235,v236,v237,v238,v239,v240,v241,v242,v243,v244,v245,v246], []⟩ W := by
  have HS := Lib.hid hst
  by_cases h1 : n = l.length
  · have t1 : ((n : Int) == (l.length : Int)) = true := beq_iff_eq.2 (by omega)
    have t2 : (n == l.length) = true := beq_iff_eq.2 h1
    unfold h3 at hr
    rw [if_pos h1] at hr
    subst hr
    clear hst hE hn hl
    rw [show Hf 3 = .seq (stmtOf 3 hfBody) (Hf 4) from by kernel_rfl]
    have hz3 : stmtOf 3 hfBody = stmtOf 3 hfBody := rfl
    conv at hz3 => rhs; whnf
    rw [hz3]; clear hz3
    go_wp2_with (first
      | ((with_reducible refine gate_store (t := 53) (p := 6) rfl ?_); refine store_any_event rfl rfl rfl rb 0 (.agg half0) half0 rfl rfl rfl _ _ HS.out.res (by kernel_rfl) (Nat.le_of_ble_eq_true (by kernel_rfl)) half0_one _ (set_half0 _ _ _ _ _ _) ?_; intro W2 g p'; have HG2 := Lib.hid g; have HQ2 := Lib.hid p'; have HF2 := Lib.hid (p'.other HS.out.flt HS.out.ne.symm); clear g p')
      | ((with_reducible refine gate_store (t := 29) (p := 7) rfl ?_); refine store_any_event rfl rfl rfl fb 0 (.agg #[.int .i64 4, .int .i64 begin]) #[.int .i64 4, .int .i64 begin] rfl rfl rfl _ _ HF2.out (by kernel_rfl) (Nat.le_of_ble_eq_true (by kernel_rfl)) (all_one2 _ _ rfl rfl) _ (set_flt _ _ _ _) ?_; intro W3 g p'; have HG3 := Lib.hid g; have HQ3 := Lib.hid p'; have HR3 := Lib.hid (p'.other HG2.out HS.out.ne); clear g p'))
    refine bodyPost_ret (results_cells2 rfl _ _ rb fb 53 29 half0 #[.int .i64 4, .int .i64 begin] (0, 0) (0, 0) _ _ rfl HR3.out Try.underlying53 rfl (by kernel_rfl) rfl HG3.out Try.underlying29 rfl (by kernel_rfl)) rfl ?_
    exact half_out (W := W) (rb := rb) (fb := fb) 4 begin (by decide) (HQ3.out.below (HQ2.out.below HS.out.below HS.out.rlo) HS.out.flo) _ rfl
  · have t1 : ((n : Int) == (l.length : Int)) = false := beq_eq_false_iff_ne.2 (by omega)
    have t2 : (n == l.length) = false := beq_eq_false_iff_ne.2 h1
    unfold h3 at hr
    rw [if_neg h1] at hr
    subst hr
    have HALL := Lib.hid (And.intro hE (And.intro (show n < l.length by omega) hl))
    clear hst hE hn hl
    rw [show Hf 3 = .seq (stmtOf 3 hfBody) (Hf 4) from by kernel_rfl]
    have hz3 : stmtOf 3 hfBody = stmtOf 3 hfBody := rfl
    conv at hz3 => rhs; whnf
    rw [hz3]; clear hz3
    go_wp2
    exact hf4 w W rb fb n AE cE first l HS.out HALL.out.1 HALL.out.2.1 HALL.out.2.2
set_option maxHeartbeats 8000000 in
set_option maxRecDepth 1000000 in
theorem hf1 (w W : World) (rb fb : Nat) (begin : Int) (AE : Option Addr) (cE : Nat) (first : Bool) (l : List El) (hst : Hst w W rb fb)
    (hE : Kd.C kEl w AE l.length l) (hl : l.length ≤ 100000000) :
    Code.wp Try.prog (Hf 1) (bodyPost Try.prog Try.f17 (HPost (halfF l first) w)) ⟨#[.slice AE l.length cE, .int .i64 begin, .bool first,v3,v4,v5, .pointer (some ⟨rb, 0, none⟩), .pointer (some ⟨fb, 0, none⟩),v8,v9,v10,v11,v12,v13,v14,v15,v16,v17,v18,v19,v20,v21,v22,v23,v24,v25,v26,v27,v28,v29,v30,v31,v32,v33,v34,v35,v36,v37,v38,v39,v40,v41,v42,v43,v44,v45,v46,v47,v48,v49,v50,v51,v52,v53,v54,v55,v56,v57,v58,v59,v60,v61,v62,v63,v64,v65,v66,v67,v68,v69,v70,v71,v72,v73,v74,v75,v76,v77,v78,v79,v80,v81,v82,v83,v84,v85,v86,v87,v88,v89,v90,v91,v92,v93,v94,v95,v96,v97,v98,v99,v100,v101,v102,v103,v104,v105,v106,v107,v108,v109,v110,v111,v112,v113,v114,v115,v116,v117,v118,v119,v120,v121,v122,v123,v124,v125,v126,v127,v128,v129,v130,v131,v132,v133,v134,v135,v136,v137,v138,v139,v140,v141,v142,v143,v144,v145,v146,v147,v148,v149,v150,v151,v152,v153,v154,v155,v156,v157,v158,v159,v160,v161,v162,v163,v164,v165,v166,v167,v168,v169,v170,v171,v172,v173,v174,v175,v176,v177,v178,v179,v180,v181,v182,v183,v184,v185,v186,v187,v188,v189,v190,v191,v192,v193,v194,v195,v196,v197,v198,v199,v200,v201,v202,v203,v204,v205,v206,v207,v208,v209,v210,v211,v212,v213,v214,v215,v216,v217,v218,v219,v220,v221,v222,v223,v224,v225,v226,v227,v228,v229,v230,v231,v232,v233,v234,v235,v236,v237,v238,v239,v240,v241,v242,v243,v244,v245,v246], []⟩ W := by
  obtain ⟨e, he⟩ : ∃ e, e = runN (fun x => !bodyB x) l 0 := ⟨_, rfl⟩
  obtain ⟨r, hr⟩ : ∃ r, r = halfF l first := ⟨_, rfl⟩
  rw [← hr]
  have HR : Hid (r = h3 first l e) := Lib.hid (by rw [hr, he]; rfl)
  have HEE := Lib.hid he
  have HS := Lib.hid hst
  have HALL := Lib.hid (And.intro hE hl)
  clear hst hE he hr
  rw [show Hf 1 = .seq (stmtOf 1 hfBody) (.seq (stmtOf 2 hfBody) (Hf 3)) from by kernel_rfl]
  have hz1 : stmtOf 1 hfBody = stmtOf 1 hfBody := rfl
  conv at hz1 => rhs; whnf
  rw [hz1]; clear hz1
  have hz2 : stmtOf 2 hfBody = stmtOf 2 hfBody := rfl
  conv at hz2 => rhs; whnf
  rw [hz2]; clear hz2
  go_wp2
  go_loopw [8] (fun v9 wx => ∃ i : Nat, v9 = .int .i64 (i : Int) ∧ i ≤ l.length ∧ Hid (runN (fun x => !bodyB x) l i = e) ∧ Below W.heap.size W wx) (fun v9 wx => l.length - (RowKit.intOf v9).toNat)
  case atStart => exact ⟨0, rfl, by omega, Lib.hid HEE.out.symm, Below.refl _ _⟩
  case round =>
    obtain ⟨i, rfl, hil, hgo, hb1⟩ := hrel
    have HB1 := Lib.hid hb1
    clear hb1
    by_cases hi : i < l.length
    · obtain ⟨x, bk, o, hx, hia, c0, c1, c2, c3⟩ := el_get HALL.out.1 (below_step HS.out.below HB1.out) i hi cE
      cases hq : bodyB x with
      | false =>
        have HC : Hid (∀ W, Calls Try.prog 36 #[.agg #[.int .i32 x.t.f0, .bool x.t.f1, .int .i64 x.t.f2, .bool x.p]] W fun e w' => e = .returned (.bool false) ∧ Below W.heap.size W w') := Lib.hid fun W => by have := body_at x W; rwa [hq] at this
        have HG : Hid (runN (fun x => !bodyB x) l (i + 1) = e) := Lib.hid (by rw [← runN_step hx (by simp [hq])]; exact hgo.out)
        clear hx hq hgo
        go_wp2_with (go_at_call 36; (with_reducible refine (HC.out _).mono ?_); rintro e1 W3 ⟨rfl, b1⟩; have HB3 := Lib.hid b1; clear b1)
        go_roundw
        case rel => exact ⟨i + 1, by go_num, by omega, HG, below_step HB1.out HB3.out⟩
        case measure => simp [RowKit.intOf]; omega
      | true =>
        have HC : Hid (∀ W, Calls Try.prog 36 #[.agg #[.int .i32 x.t.f0, .bool x.t.f1, .int .i64 x.t.f2, .bool x.p]] W fun e w' => e = .returned (.bool true) ∧ Below W.heap.size W w') := Lib.hid fun W => by have := body_at x W; rwa [hq] at this
        have hie : i = e := by have := hgo.out; rwa [runN_stop hx (by simp [hq])] at this
        subst hie
        clear hx hq hgo
        go_wp2_with (go_at_call 36; (with_reducible refine (HC.out _).mono ?_); rintro e1 W3 ⟨rfl, b1⟩; have HB3 := Lib.hid b1; clear b1)
        exact hf3 w W3 rb fb i begin AE cE first l r HR.out (HS.out.step (below_step HB1.out HB3.out)) HALL.out.1 hil HALL.out.2
    · have hie : i = e := by have := hgo.out; rwa [runN_end (by omega)] at this
      subst hie
      clear hgo
      go_wp2
      exact hf3 w wr rb fb i begin AE cE first l r HR.out (HS.out.step HB1.out) HALL.out.1 hil HALL.out.2
theorem hst0 (w : World) : Hst w ((w.alloc (.cells half0 53 (0, 0))).alloc (.cells #[.int .i64 0, .int .i64 0] 29 (0, 0))) w.heap.size (w.heap.size + 1) := by
  have h1 : (w.alloc (.cells half0 53 (0, 0))).heap.size = w.heap.size + 1 := Array.size_push _
  refine ⟨below_alloc (below_alloc (Below.refl _ _) _) _, Nat.le_refl _, Nat.le_succ _, by omega, blk_alloc (heap_alloc_new w _) _, ?_⟩
  rw [← h1]
  exact heap_alloc_new _ _
set_option maxHeartbeats 8000000 in
set_option maxRecDepth 1000000 in
/-- HALF'S CONTRACT. -/
theorem half_calls (l : List El) (AE : Option Addr) (cE : Nat) (begin : Int) (first : Bool) (w : World) (hE : Kd.C kEl w AE l.length l) (hl : l.length ≤ 100000000) :
    Calls Try.prog 17 #[.slice AE l.length cE, .int .i64 begin, .bool first] w (HPost (halfF l first) w) := by
  obtain ⟨r, hr⟩ : ∃ r, r = halfF l first := ⟨_, rfl⟩
  rw [← hr]
  have HR := Lib.hid hr
  have HALL := Lib.hid (And.intro hE hl)
  clear hr hE hl
  refine calls_of_wp (c := Hf 0) Try.func17 (by kernel_rfl) ?_
  simp only [Try.ntmps17, List.size_toArray, List.length_cons, List.length_nil, Nat.reduceAdd, Nat.reduceSub, Array.replicate_succ, Array.replicate_zero, List.push_toArray, List.append_toArray, List.nil_append, List.cons_append]
  rw [show Hf 0 = .seq (stmtOf 0 hfBody) (Hf 1) from by kernel_rfl]
  have hz0 : stmtOf 0 hfBody = stmtOf 0 hfBody := rfl
  conv at hz0 => rhs; whnf
  rw [hz0]; clear hz0
  go_wp2
  rw [HR.out]
  exact hf1 w _ w.heap.size (w.heap.size + 1) begin AE cE first l (hst0 w) HALL.out.1 HALL.out.2
end Go.Proofs.Ytkgdpgoianimjaa.Print
