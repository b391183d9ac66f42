/- The reference's Number, cut into pieces: words, the last pieces, patterns of signs. Frames printed by this session's own program (wip/tools/mk_nrall.py). -/
import Derived.Test.YtkgdpgoianimjaaKrc
import Derived.Test.YtkgdpgoianimjaaKv
import Derived.RegionTactic
namespace Go.Proofs.Ytkgdpgoianimjaa.Print
open Go.RowKit Go.Proofs.YtkgdpgoianimjaaW.PrintWords Go.Proofs.YtkgdpgoianimjaaW.PrintLast Go.Proofs.YtkgdpgoianimjaaW.PrintMore
set_option linter.unusedVariables false
set_option linter.unusedSimpArgs false
variable {v0 v1 v2 v3 v4 v5 v6 v7 v8 v9 v10 v11 v12 v13 v14 v15 v16 v17 v18 v19 v20 v21 v22 v23 v24 v25 v26 v27 v28 v29 v30 v31 v32 v33 v34 v35 v36 v37 v38 v39 v40 v41 v42 v43 v44 v45 v46 v47 v48 v49 v50 v51 v52 v53 v54 v55 v56 v57 v58 v59 v60 v61 v62 v63 v64 v65 v66 v67 v68 v69 v70 v71 v72 v73 v74 v75 v76 v77 v78 v79 v80 v81 v82 v83 v84 v85 v86 v87 v88 v89 v90 v91 v92 v93 v94 v95 v96 v97 v98 v99 v100 v101 v102 v103 v104 v105 v106 v107 v108 v109 v110 v111 v112 v113 v114 v115 v116 v117 v118 v119 v120 v121 v122 v123 v124 v125 v126 v127 v128 v129 v130 v131 v132 v133 v134 v135 v136 v137 v138 v139 v140 v141 v142 v143 v144 v145 v146 v147 v148 v149 v150 v151 v152 v153 v154 v155 v156 v157 v158 v159 v160 v161 v162 v163 v164 v165 v166 v167 v168 v169 v170 v171 v172 v173 v174 v175 v176 v177 v178 v179 v180 v181 v182 v183 v184 v185 v186 v187 v188 v189 v190 v191 v192 v193 v194 v195 v196 v197 v198 v199 v200 v201 v202 v203 v204 v205 v206 v207 v208 v209 v210 v211 v212 v213 v214 v215 v216 v217 v218 v219 v220 v221 v222 v223 v224 v225 v226 v227 v228 v229 v230 v231 v232 v233 v234 v235 v236 v237 v238 v239 v240 v241 v242 v243 v244 v245 v246 v247 v248 v249 v250 v251 v252 v253 v254 v255 v256 v257 v258 v259 v260 v261 v262 v263 v264 v265 v266 v267 v268 v269 v270 v271 v272 v273 v274 v275 v276 v277 v278 v279 v280 v281 v282 v283 v284 v285 v286 v287 v288 v289 v290 v291 v292 v293 v294 v295 v296 v297 v298 v299 v300 v301 v302 v303 v304 v305 v306 v307 v308 v309 v310 v311 v312 v313 v314 v315 v316 v317 v318 v319 v320 : Value}

/- The reference's Number, cut into pieces: the words. -/

/-- The function's text, and what is left of it behind its first k statements. -/
noncomputable def nrBody : Code := (Try.f14.body).getD .skip
def restOf : Nat → Code → Code
  | 0, c => c
  | n + 1, .seq _ b => restOf n b
  | _ + 1, _ => .skip
def stmtOf : Nat → Code → Code
  | 0, .seq a _ => a
  | n + 1, .seq _ b => stmtOf n b
  | _, c => c
noncomputable def Nr (k : Nat) : Code := restOf k nrBody
def NPost (r : N.NP × Int) (w : World) (e : Ending) (w' : World) : Prop := e = .returned (.tuple #[.agg (patN r.1), .int .i64 r.2]) ∧ Below w.heap.size w w'
/-- Where the call stands: rb is the result's variable, pb the pattern's. -/
structure Nst (w W : World) (rb pb : Nat) (p : N.NP) : Prop where
  below : Below w.heap.size w W
  rlo : w.heap.size ≤ rb
  plo : w.heap.size ≤ pb
  ne : rb ≠ pb
  res : W.heap[rb]? = some (.cells (patN N.np0) 26 (0, 0))
  pat : W.heap[pb]? = some (.cells (patN p) 26 (0, 0))
theorem Nst.step {w W W' : World} {rb pb : Nat} {p : N.NP} (h : Nst w W rb pb p) (b : Below W.heap.size W W') : Nst w W' rb pb p :=
  ⟨below_step h.below b, h.rlo, h.plo, h.ne, heap_keeps b h.res, heap_keeps b h.pat⟩
theorem Nst.alloc {w W : World} {rb pb : Nat} {p : N.NP} (h : Nst w W rb pb p) (o : Obj) : Nst w (W.alloc o) rb pb p :=
  h.step ((Below.refl W.heap.size W).alloc (Nat.le_refl _) o)
theorem Nst.set {w W : World} {rb pb : Nat} {p p' : N.NP} (h : Nst w W rb pb p) (i : Nat) (u : Value) (e : (patN p).setIfInBounds i u = patN p') : Nst w (W.setCell ⟨pb, i, none⟩ u) rb pb p' :=
  ⟨below_set h.below h.plo, h.rlo, h.plo, h.ne, (Below.heap_setCell W ⟨pb, i, none⟩ u rb h.ne).trans h.res, e ▸ blk_set h.pat i u⟩
theorem Nst.cell {w W : World} {rb pb : Nat} {p : N.NP} (h : Nst w W rb pb p) (i : Nat) : W.cell? ⟨pb, i, none⟩ = (patN p)[i]? := blk_cell h.pat i
theorem Nst.frozen {w W : World} {rb pb : Nat} {p : N.NP} (h : Nst w W rb pb p) (i : Nat) : W.frozen? ⟨pb, i, none⟩ = false := blk_frozen h.pat i
/- The reference's Number, its last piece: what is said is handed out. -/

set_option maxHeartbeats 8000000 in
set_option maxRecDepth 1000000 in
theorem nr20 (w W : World) (rb pb : Nat) (p : N.NP) (r : N.NP × Int) (hr : r = (p, 0)) (hst : Nst w W rb pb p) :
    Code.wp Try.prog (Nr 20) (bodyPost Try.prog Try.f14 (NPost r w)) ⟨#[v0,v1, .pointer (some ⟨rb, 0, none⟩),v3, .pointer (some ⟨pb, 0, none⟩),v5,v6,v7,v8,v9,v10,v11,v12,v13,v14,v15,v16,v17,v18,v19,v20,v21,v22,v23,v24,v25,v26,v27,v28,v29,v30,v31,v32,v33,v34,v35,v36,v37,v38,v39,v40,v41,v42,v43,v44,v45,v46,v47,v48,v49,v50,v51,v52,v53,v54,v55,v56,v57,v58,v59,v60,v61,v62,v63,v64,v65,v66,v67,v68,v69,v70,v71,v72,v73,v74,v75,v76,v77,v78,v79,v80,v81,v82,v83,v84,v85,v86,v87,v88,v89,v90,v91,v92,v93,v94,v95,v96,v97,v98,v99,v100,v101,v102,v103,v104,v105,v106,v107,v108,v109,v110,v111,v112,v113,v114,v115,v116,v117,v118,v119,v120,v121,v122,v123,v124,v125,v126,v127,v128,v129,v130,v131,v132,v133,v134,v135,v136,v137,v138,v139,v140,v141,v142,v143,v144,v145,v146,v147,v148,v149,v150,v151,v152,v153,v154,v155,v156,v157,v158,v159,v160,v161,v162,v163,v164,v165,v166,v167,v168,v169,v170,v171,v172,v173,v174,v175,v176,v177,v178,v179,v180,v181,v182,v183,v184,v185,v186,v187,v188,v189,v190,v191,v192,v193,v194,v195,v196,v197,v198,v199,v200,v201,v202,v203,v204,v205,v206,v207,v208,v209,v210,v211,v212,v213,v214,v215,v216,v217,v218,v219,v220,v221,v222,v223,v224,v225,v226,v227,v228,v229,v230,v231,v232,v233,v234,v235,v236,v237,v238,v239,v240,v241,v242,v243,v244,v245,v246,v247,v248,v249,v250,v251,v252,v253,v254,v255,v256,v257,v258,v259,v260,v261,v262,v263,v264,v265,v266,v267,v268,v269,v270,v271,v272,v273,v274,v275,v276,v277,v278,v279,v280,v281,v282,v283,v284,v285,v286,v287,v288,v289,v290,v291,v292,v293,v294,v295,v296,v297,v298,v299,v300,v301,v302,v303,v304,v305,v306,v307,v308,v309,v310,v311,v312,v313,v314,v315,v316,v317,v318,v319,v320], []⟩ W := by
  subst hr
  have HST := Lib.hid hst
  clear hst
  rw [show Nr 20 = .seq (stmtOf 20 nrBody) (Nr 21) from by kernel_rfl]
  have hz20 : stmtOf 20 nrBody = stmtOf 20 nrBody := rfl
  conv at hz20 => rhs; whnf
  rw [hz20]; clear hz20
  have hz21 : Nr 21 = Nr 21 := rfl
  conv at hz21 => rhs; whnf
  rw [hz21]; clear hz21
  go_wp2_with (first
    | ((with_reducible refine gate_dst (N := 320) rfl ?_); refine wpList_load_mid rfl 26 (.tmp 4) rfl pb 0 rfl (patN p).toList _ (row_range HST.out.pat) Try.underlying26 rfl (by kernel_rfl) ?_)
    | ((with_reducible refine gate_store (t := 26) (p := 2) rfl ?_); refine store_new_event rfl rfl rfl rb (patN p) _ 26 rfl rfl HST.out.res (by kernel_rfl) rfl (patN_one _) ?_; intro W9 hW9 hput; have HB9 := Lib.hid (hput.below HST.out.below HST.out.rlo); have HR9 := Lib.hid hW9; clear hput hW9))
  refine bodyPost_ret (results_cell_tmp rfl _ _ rb 26 (patN p) (0, 0) _ rfl HR9.out Try.underlying26 rfl (by kernel_rfl)) rfl ?_
  exact ⟨rfl, HB9.out⟩
/- The reference's Number: the seven bounds. -/

def vals7 (p : N.NP) : List Nat := [p.minInt, p.maxInt, p.maxFrac, p.maxSig, p.prim, p.sec, p.inc.length]
theorem vals_over (p : N.NP) : N.over p ↔ ∃ i, i < 7 ∧ 40 < (vals7 p).getD i 0 := by
  unfold N.over vals7
  constructor
  · intro h
    rcases h with h | h | h | h | h | h | h
    · exact ⟨0, by omega, h⟩
    · exact ⟨1, by omega, h⟩
    · exact ⟨2, by omega, h⟩
    · exact ⟨3, by omega, h⟩
    · exact ⟨4, by omega, h⟩
    · exact ⟨5, by omega, h⟩
    · exact ⟨6, by omega, h⟩
  · rintro ⟨i, hi, h⟩
    match i, hi, h with
    | 0, _, h => exact .inl h
    | 1, _, h => exact .inr (.inl h)
    | 2, _, h => exact .inr (.inr (.inl h))
    | 3, _, h => exact .inr (.inr (.inr (.inl h)))
    | 4, _, h => exact .inr (.inr (.inr (.inr (.inl h))))
    | 5, _, h => exact .inr (.inr (.inr (.inr (.inr (.inl h)))))
    | 6, _, h => exact .inr (.inr (.inr (.inr (.inr (.inr h)))))
def row7 (p : N.NP) : Array Value := #[.int .i64 p.minInt, .int .i64 p.maxInt, .int .i64 p.maxFrac, .int .i64 p.maxSig, .int .i64 p.prim, .int .i64 p.sec, .int .i64 p.inc.length]
theorem row7_at (p : N.NP) (i : Nat) (h : i < 7) : (row7 p)[i]? = some (.int .i64 ((vals7 p).getD i 0 : Nat)) := by
  match i, h with
  | 0, _ => rfl
  | 1, _ => rfl
  | 2, _ => rfl
  | 3, _ => rfl
  | 4, _ => rfl
  | 5, _ => rfl
  | 6, _ => rfl

set_option maxHeartbeats 8000000 in
set_option maxRecDepth 1000000 in
theorem nr19 (w W : World) (rb pb : Nat) (p : N.NP) (r : N.NP × Int) (hr : r = if N.over p then (N.np0, 8) else (p, 0)) (hst : Nst w W rb pb p) (h9 : p.inc.length ≤ 9223372036854775807) :
    Code.wp Try.prog (Nr 19) (bodyPost Try.prog Try.f14 (NPost r w)) ⟨#[v0,v1, .pointer (some ⟨rb, 0, none⟩),v3, .pointer (some ⟨pb, 0, none⟩),v5,v6,v7,v8,v9,v10,v11,v12,v13,v14,v15,v16,v17,v18,v19,v20,v21,v22,v23,v24,v25,v26,v27,v28,v29,v30,v31,v32,v33,v34,v35,v36,v37,v38,v39,v40,v41,v42,v43,v44,v45,v46,v47,v48,v49,v50,v51,v52,v53,v54,v55,v56,v57,v58,v59,v60,v61,v62,v63,v64,v65,v66,v67,v68,v69,v70,v71,v72,v73,v74,v75,v76,v77,v78,v79,v80,v81,v82,v83,v84,v85,v86,v87,v88,v89,v90,v91,v92,v93,v94,v95,v96,v97,v98,v99,v100,v101,v102,v103,v104,v105,v106,v107,v108,v109,v110,v111,v112,v113,v114,v115,v116,v117,v118,v119,v120,v121,v122,v123,v124,v125,v126,v127,v128,v129,v130,v131,v132,v133,v134,v135,v136,v137,v138,v139,v140,v141,v142,v143,v144,v145,v146,v147,v148,v149,v150,v151,v152,v153,v154,v155,v156,v157,v158,v159,v160,v161,v162,v163,v164,v165,v166,v167,v168,v169,v170,v171,v172,v173,v174,v175,v176,v177,v178,v179,v180,v181,v182,v183,v184,v185,v186,v187,v188,v189,v190,v191,v192,v193,v194,v195,v196,v197,v198,v199,v200,v201,v202,v203,v204,v205,v206,v207,v208,v209,v210,v211,v212,v213,v214,v215,v216,v217,v218,v219,v220,v221,v222,v223,v224,v225,v226,v227,v228,v229,v230,v231,v232,v233,v234,v235,v236,v237,v238,v239,v240,v241,v242,v243,v244,v245,v246,v247,v248,v249,v250,v251,v252,v253,v254,v255,v256,v257,v258,v259,v260,v261,v262,v263,v264,v265,v266,v267,v268,v269,v270,v271,v272,v273,v274,v275,v276,v277,v278,v279,v280,v281,v282,v283,v284,v285,v286,v287,v288,v289,v290,v291,v292,v293,v294,v295,v296,v297,v298,v299,v300,v301,v302,v303,v304,v305,v306,v307,v308,v309,v310,v311,v312,v313,v314,v315,v316,v317,v318,v319,v320], []⟩ W := by
  have HST := Lib.hid hst
  have HR := Lib.hid hr
  have p5 := hst.cell 5
  have p6 := hst.cell 6
  have p8 := hst.cell 8
  have p10 := hst.cell 10
  have p11 := hst.cell 11
  have p12 := hst.cell 12
  have p13 := hst.cell 13
  change W.cell? ⟨pb, 5, none⟩ = some (.int .i64 p.minInt) at p5
  change W.cell? ⟨pb, 6, none⟩ = some (.int .i64 p.maxInt) at p6
  change W.cell? ⟨pb, 8, none⟩ = some (.int .i64 p.maxFrac) at p8
  change W.cell? ⟨pb, 10, none⟩ = some (.int .i64 p.maxSig) at p10
  change W.cell? ⟨pb, 11, none⟩ = some (.int .i64 p.prim) at p11
  change W.cell? ⟨pb, 12, none⟩ = some (.int .i64 p.sec) at p12
  change W.cell? ⟨pb, 13, none⟩ = some (.string (mkB p.inc)) at p13
  have hsz : (mkB p.inc).size = p.inc.length := mkB_size _
  clear hst hr
  rw [show Nr 19 = .seq (stmtOf 19 nrBody) (Nr 20) from by kernel_rfl]
  have hz19 : stmtOf 19 nrBody = stmtOf 19 nrBody := rfl
  conv at hz19 => rhs; whnf
  rw [hz19]; clear hz19
  go_wp2
  obtain ⟨W2, hW2⟩ : ∃ W2, W2 = W.alloc (.cells (row7 p) 3 (0, 0)) := ⟨_, rfl⟩
  have hC := heap_alloc_new W (.cells (row7 p) 3 (0, 0))
  have hS2 := HST.out.alloc (.cells (row7 p) 3 (0, 0))
  rw [← hW2] at hC hS2
  have HC := Lib.hid hC
  have HS2 := Lib.hid hS2
  clear hC hS2
  rw [show W.alloc (.cells #[.int .i64 p.minInt, .int .i64 p.maxInt, .int .i64 p.maxFrac, .int .i64 p.maxSig, .int .i64 p.prim, .int .i64 p.sec, .int .i64 p.inc.length] 3) = W2 from hW2.symm]
  clear hW2 p5 p6 p8 p10 p11 p12 p13 HST
  go_loopw [312] (fun v312 wr => ∃ i : Nat, v312 = .int .i64 (i : Int) ∧ i ≤ 7 ∧ (∀ j, j < i → (vals7 p).getD j 0 ≤ 40) ∧ wr = W2) (fun v312 _ => 7 - (RowKit.intOf v312).toNat)
  case atStart => exact ⟨0, rfl, by omega, fun j hj => by omega, rfl⟩
  case round =>
    obtain ⟨i, rfl, hi, hall, hwr⟩ := hrel
    subst hwr
    have HALL := Lib.hid hall
    clear hall
    by_cases h7 : i < 7
    · obtain ⟨x, hx⟩ : ∃ x : Int, (((vals7 p).getD i 0 : Nat) : Int) = x := ⟨_, rfl⟩
      have hc : wr.cell? ⟨W.heap.size, i, none⟩ = some (.int .i64 x) := by
        rw [← hx]
        exact (blk_cell HC.out i).trans (row7_at p i h7)
      by_cases hv : 40 < (vals7 p).getD i 0
      · have ht : decide (40 < x) = true := decide_eq_true (by omega)
        have hr9 : r = (N.np0, 8) := by rw [HR.out, if_pos ((vals_over p).2 ⟨i, h7, hv⟩)]
        subst hr9
        have HST := HS2
        clear hx hv HR
        go_wp2_with (((with_reducible refine gate_store (t := 26) (p := 2) rfl ?_); refine store_new_event rfl rfl rfl rb (patI 0 0 0 0 0 0 0 0 ⟨#[]⟩ false 0 false) _ 26 rfl rfl HST.out.res (by kernel_rfl) rfl (patI_one _ _ _ _ _ _ _ _ _ _ _ _) ?_; intro W9 hW9 hput; have HB9 := Lib.hid (hput.below HST.out.below HST.out.rlo); have HR9 := Lib.hid hW9; clear hput hW9))
        refine bodyPost_ret (results_cell_tmp rfl _ _ rb 26 (patI 0 0 0 0 0 0 0 0 ⟨#[]⟩ false 0 false) (0, 0) _ rfl HR9.out Try.underlying26 rfl (by kernel_rfl)) rfl ?_
        exact ⟨rfl, HB9.out⟩
      · have ht : decide (40 < x) = false := decide_eq_false (by omega)
        have hle : (vals7 p).getD i 0 ≤ 40 := by omega
        have HLE := Lib.hid hle
        clear hx hv hle
        go_wp2
        go_roundw
        case rel =>
          refine ⟨i + 1, by go_num, by omega, fun j hj => ?_, by trivial⟩
          by_cases e : j = i
          · rw [e]; exact HLE.out
          · exact HALL.out j (by omega)
        case measure => simp [RowKit.intOf]; omega
    · obtain rfl : i = 7 := by omega
      go_wp2
      refine nr20 w wr rb pb p r ?_ HS2.out
      rw [HR.out, if_neg]
      intro h
      obtain ⟨j, hj, h2⟩ := (vals_over p).1 h
      have := HALL.out j hj
      omega
/- The reference's Number: what may not stand together. -/

set_option maxHeartbeats 8000000 in
set_option maxRecDepth 1000000 in
theorem nr18_a (w W : World) (rb pb k sc : Nat) (sa : Option Addr) (sci : Bool) (pl : ByteArray) (p : N.NP) (r : N.NP × Int) (hb : sci = false) (hr : r = if N.over p then (N.np0, 8) else (p, 0)) (hst : Nst w W rb pb p) (h9 : p.inc.length ≤ 9223372036854775807) :
    Code.wp Try.prog (Nr 18) (bodyPost Try.prog Try.f14 (NPost r w)) ⟨#[v0,v1, .pointer (some ⟨rb, 0, none⟩),v3, .pointer (some ⟨pb, 0, none⟩),v5,v6, .bool sci,v8,v9,v10,v11,v12, .slice sa k sc, .string pl,v15,v16,v17,v18,v19,v20,v21,v22,v23,v24,v25,v26,v27,v28,v29,v30,v31,v32,v33,v34,v35,v36,v37,v38,v39,v40,v41,v42,v43,v44,v45,v46,v47,v48,v49,v50,v51,v52,v53,v54,v55,v56,v57,v58,v59,v60,v61,v62,v63,v64,v65,v66,v67,v68,v69,v70,v71,v72,v73,v74,v75,v76,v77,v78,v79,v80,v81,v82,v83,v84,v85,v86,v87,v88,v89,v90,v91,v92,v93,v94,v95,v96,v97,v98,v99,v100,v101,v102,v103,v104,v105,v106,v107,v108,v109,v110,v111,v112,v113,v114,v115,v116,v117,v118,v119,v120,v121,v122,v123,v124,v125,v126,v127,v128,v129,v130,v131,v132,v133,v134,v135,v136,v137,v138,v139,v140,v141,v142,v143,v144,v145,v146,v147,v148,v149,v150,v151,v152,v153,v154,v155,v156,v157,v158,v159,v160,v161,v162,v163,v164,v165,v166,v167,v168,v169,v170,v171,v172,v173,v174,v175,v176,v177,v178,v179,v180,v181,v182,v183,v184,v185,v186,v187,v188,v189,v190,v191,v192,v193,v194,v195,v196,v197,v198,v199,v200,v201,v202,v203,v204,v205,v206,v207,v208,v209,v210,v211,v212,v213,v214,v215,v216,v217,v218,v219,v220,v221,v222,v223,v224,v225,v226,v227,v228,v229,v230,v231,v232,v233,v234,v235,v236,v237,v238,v239,v240,v241,v242,v243,v244,v245,v246,v247,v248,v249,v250,v251,v252,v253,v254,v255,v256,v257,v258,v259,v260,v261,v262,v263,v264,v265,v266,v267,v268,v269,v270,v271,v272,v273,v274,v275,v276,v277,v278,v279,v280,v281,v282,v283,v284,v285,v286,v287,v288,v289,v290,v291,v292,v293,v294,v295,v296,v297,v298,v299,v300,v301,v302,v303,v304,v305,v306,v307,v308,v309,v310,v311,v312,v313,v314,v315,v316,v317,v318,v319,v320], []⟩ W := by
  subst hb
  have HST := Lib.hid hst
  have HR := Lib.hid hr
  clear hst hr
  rw [show Nr 18 = .seq (stmtOf 18 nrBody) (Nr 19) from by kernel_rfl]
  have hz18 : stmtOf 18 nrBody = stmtOf 18 nrBody := rfl
  conv at hz18 => rhs; whnf
  rw [hz18]; clear hz18
  go_wp2
  exact nr19 w W rb pb p r HR.out HST.out h9
set_option maxHeartbeats 8000000 in
set_option maxRecDepth 1000000 in
theorem nr18_b (w W : World) (rb pb k sc : Nat) (sa : Option Addr) (sci : Bool) (pl : ByteArray) (p : N.NP) (r : N.NP × Int) (hb : sci = true) (hk : 1 < k) (hr : r = (N.np0, 6)) (hst : Nst w W rb pb p) :
    Code.wp Try.prog (Nr 18) (bodyPost Try.prog Try.f14 (NPost r w)) ⟨#[v0,v1, .pointer (some ⟨rb, 0, none⟩),v3, .pointer (some ⟨pb, 0, none⟩),v5,v6, .bool sci,v8,v9,v10,v11,v12, .slice sa k sc, .string pl,v15,v16,v17,v18,v19,v20,v21,v22,v23,v24,v25,v26,v27,v28,v29,v30,v31,v32,v33,v34,v35,v36,v37,v38,v39,v40,v41,v42,v43,v44,v45,v46,v47,v48,v49,v50,v51,v52,v53,v54,v55,v56,v57,v58,v59,v60,v61,v62,v63,v64,v65,v66,v67,v68,v69,v70,v71,v72,v73,v74,v75,v76,v77,v78,v79,v80,v81,v82,v83,v84,v85,v86,v87,v88,v89,v90,v91,v92,v93,v94,v95,v96,v97,v98,v99,v100,v101,v102,v103,v104,v105,v106,v107,v108,v109,v110,v111,v112,v113,v114,v115,v116,v117,v118,v119,v120,v121,v122,v123,v124,v125,v126,v127,v128,v129,v130,v131,v132,v133,v134,v135,v136,v137,v138,v139,v140,v141,v142,v143,v144,v145,v146,v147,v148,v149,v150,v151,v152,v153,v154,v155,v156,v157,v158,v159,v160,v161,v162,v163,v164,v165,v166,v167,v168,v169,v170,v171,v172,v173,v174,v175,v176,v177,v178,v179,v180,v181,v182,v183,v184,v185,v186,v187,v188,v189,v190,v191,v192,v193,v194,v195,v196,v197,v198,v199,v200,v201,v202,v203,v204,v205,v206,v207,v208,v209,v210,v211,v212,v213,v214,v215,v216,v217,v218,v219,v220,v221,v222,v223,v224,v225,v226,v227,v228,v229,v230,v231,v232,v233,v234,v235,v236,v237,v238,v239,v240,v241,v242,v243,v244,v245,v246,v247,v248,v249,v250,v251,v252,v253,v254,v255,v256,v257,v258,v259,v260,v261,v262,v263,v264,v265,v266,v267,v268,v269,v270,v271,v272,v273,v274,v275,v276,v277,v278,v279,v280,v281,v282,v283,v284,v285,v286,v287,v288,v289,v290,v291,v292,v293,v294,v295,v296,v297,v298,v299,v300,v301,v302,v303,v304,v305,v306,v307,v308,v309,v310,v311,v312,v313,v314,v315,v316,v317,v318,v319,v320], []⟩ W := by
  subst hb hr
  have HST := Lib.hid hst
  clear hst
  rw [show Nr 18 = .seq (stmtOf 18 nrBody) (Nr 19) from by kernel_rfl]
  have hz18 : stmtOf 18 nrBody = stmtOf 18 nrBody := rfl
  conv at hz18 => rhs; whnf
  rw [hz18]; clear hz18
  go_wp2_with (((with_reducible refine gate_store (t := 26) (p := 2) rfl ?_); refine store_new_event rfl rfl rfl rb (patI 0 0 0 0 0 0 0 0 ⟨#[]⟩ false 0 false) _ 26 rfl rfl HST.out.res (by kernel_rfl) rfl (patI_one _ _ _ _ _ _ _ _ _ _ _ _) ?_; intro W9 hW9 hput; have HB9 := Lib.hid (hput.below HST.out.below HST.out.rlo); have HR9 := Lib.hid hW9; clear hput hW9))
  refine bodyPost_ret (results_cell_tmp rfl _ _ rb 26 (patI 0 0 0 0 0 0 0 0 ⟨#[]⟩ false 0 false) (0, 0) _ rfl HR9.out Try.underlying26 rfl (by kernel_rfl)) rfl ?_
  exact ⟨rfl, HB9.out⟩
set_option maxHeartbeats 8000000 in
set_option maxRecDepth 1000000 in
theorem nr18_c (w W : World) (rb pb k sc : Nat) (sa : Option Addr) (sci : Bool) (pl : ByteArray) (p : N.NP) (r : N.NP × Int) (hb : sci = true) (hk : ¬ 1 < k) (hm : p.minSig = 0) (hr : r = if N.over p then (N.np0, 8) else (p, 0)) (hst : Nst w W rb pb p) (h9 : p.inc.length ≤ 9223372036854775807) :
    Code.wp Try.prog (Nr 18) (bodyPost Try.prog Try.f14 (NPost r w)) ⟨#[v0,v1, .pointer (some ⟨rb, 0, none⟩),v3, .pointer (some ⟨pb, 0, none⟩),v5,v6, .bool sci,v8,v9,v10,v11,v12, .slice sa k sc, .string pl,v15,v16,v17,v18,v19,v20,v21,v22,v23,v24,v25,v26,v27,v28,v29,v30,v31,v32,v33,v34,v35,v36,v37,v38,v39,v40,v41,v42,v43,v44,v45,v46,v47,v48,v49,v50,v51,v52,v53,v54,v55,v56,v57,v58,v59,v60,v61,v62,v63,v64,v65,v66,v67,v68,v69,v70,v71,v72,v73,v74,v75,v76,v77,v78,v79,v80,v81,v82,v83,v84,v85,v86,v87,v88,v89,v90,v91,v92,v93,v94,v95,v96,v97,v98,v99,v100,v101,v102,v103,v104,v105,v106,v107,v108,v109,v110,v111,v112,v113,v114,v115,v116,v117,v118,v119,v120,v121,v122,v123,v124,v125,v126,v127,v128,v129,v130,v131,v132,v133,v134,v135,v136,v137,v138,v139,v140,v141,v142,v143,v144,v145,v146,v147,v148,v149,v150,v151,v152,v153,v154,v155,v156,v157,v158,v159,v160,v161,v162,v163,v164,v165,v166,v167,v168,v169,v170,v171,v172,v173,v174,v175,v176,v177,v178,v179,v180,v181,v182,v183,v184,v185,v186,v187,v188,v189,v190,v191,v192,v193,v194,v195,v196,v197,v198,v199,v200,v201,v202,v203,v204,v205,v206,v207,v208,v209,v210,v211,v212,v213,v214,v215,v216,v217,v218,v219,v220,v221,v222,v223,v224,v225,v226,v227,v228,v229,v230,v231,v232,v233,v234,v235,v236,v237,v238,v239,v240,v241,v242,v243,v244,v245,v246,v247,v248,v249,v250,v251,v252,v253,v254,v255,v256,v257,v258,v259,v260,v261,v262,v263,v264,v265,v266,v267,v268,v269,v270,v271,v272,v273,v274,v275,v276,v277,v278,v279,v280,v281,v282,v283,v284,v285,v286,v287,v288,v289,v290,v291,v292,v293,v294,v295,v296,v297,v298,v299,v300,v301,v302,v303,v304,v305,v306,v307,v308,v309,v310,v311,v312,v313,v314,v315,v316,v317,v318,v319,v320], []⟩ W := by
  subst hb
  have HST := Lib.hid hst
  have HR := Lib.hid hr
  have p9 := hst.cell 9
  change W.cell? ⟨pb, 9, none⟩ = some (.int .i64 p.minSig) at p9
  rw [hm] at p9
  change W.cell? ⟨pb, 9, none⟩ = some (.int .i64 0) at p9
  clear hst hr hm
  rw [show Nr 18 = .seq (stmtOf 18 nrBody) (Nr 19) from by kernel_rfl]
  have hz18 : stmtOf 18 nrBody = stmtOf 18 nrBody := rfl
  conv at hz18 => rhs; whnf
  rw [hz18]; clear hz18
  go_wp2
  exact nr19 w W rb pb p r HR.out HST.out h9
set_option maxHeartbeats 8000000 in
set_option maxRecDepth 1000000 in
theorem nr18_d (w W : World) (rb pb k sc : Nat) (sa : Option Addr) (sci : Bool) (pl : ByteArray) (p : N.NP) (r : N.NP × Int) (hb : sci = true) (hk : ¬ 1 < k) (hm : 0 < p.minSig) (h1 : 0 < pl.size) (hh : pl[0]'h1 = 35) (hr : r = (N.np0, 6)) (hst : Nst w W rb pb p) :
    Code.wp Try.prog (Nr 18) (bodyPost Try.prog Try.f14 (NPost r w)) ⟨#[v0,v1, .pointer (some ⟨rb, 0, none⟩),v3, .pointer (some ⟨pb, 0, none⟩),v5,v6, .bool sci,v8,v9,v10,v11,v12, .slice sa k sc, .string pl,v15,v16,v17,v18,v19,v20,v21,v22,v23,v24,v25,v26,v27,v28,v29,v30,v31,v32,v33,v34,v35,v36,v37,v38,v39,v40,v41,v42,v43,v44,v45,v46,v47,v48,v49,v50,v51,v52,v53,v54,v55,v56,v57,v58,v59,v60,v61,v62,v63,v64,v65,v66,v67,v68,v69,v70,v71,v72,v73,v74,v75,v76,v77,v78,v79,v80,v81,v82,v83,v84,v85,v86,v87,v88,v89,v90,v91,v92,v93,v94,v95,v96,v97,v98,v99,v100,v101,v102,v103,v104,v105,v106,v107,v108,v109,v110,v111,v112,v113,v114,v115,v116,v117,v118,v119,v120,v121,v122,v123,v124,v125,v126,v127,v128,v129,v130,v131,v132,v133,v134,v135,v136,v137,v138,v139,v140,v141,v142,v143,v144,v145,v146,v147,v148,v149,v150,v151,v152,v153,v154,v155,v156,v157,v158,v159,v160,v161,v162,v163,v164,v165,v166,v167,v168,v169,v170,v171,v172,v173,v174,v175,v176,v177,v178,v179,v180,v181,v182,v183,v184,v185,v186,v187,v188,v189,v190,v191,v192,v193,v194,v195,v196,v197,v198,v199,v200,v201,v202,v203,v204,v205,v206,v207,v208,v209,v210,v211,v212,v213,v214,v215,v216,v217,v218,v219,v220,v221,v222,v223,v224,v225,v226,v227,v228,v229,v230,v231,v232,v233,v234,v235,v236,v237,v238,v239,v240,v241,v242,v243,v244,v245,v246,v247,v248,v249,v250,v251,v252,v253,v254,v255,v256,v257,v258,v259,v260,v261,v262,v263,v264,v265,v266,v267,v268,v269,v270,v271,v272,v273,v274,v275,v276,v277,v278,v279,v280,v281,v282,v283,v284,v285,v286,v287,v288,v289,v290,v291,v292,v293,v294,v295,v296,v297,v298,v299,v300,v301,v302,v303,v304,v305,v306,v307,v308,v309,v310,v311,v312,v313,v314,v315,v316,v317,v318,v319,v320], []⟩ W := by
  subst hb hr
  have HST := Lib.hid hst
  have p9 := hst.cell 9
  obtain ⟨ms, hms⟩ : ∃ ms : Int, (p.minSig : Int) = ms := ⟨_, rfl⟩
  have p9' : W.cell? ⟨pb, 9, none⟩ = some (.int .i64 ms) := by rw [← hms]; exact p9
  have hpos : decide (0 < ms) = true := decide_eq_true (by omega)
  have h5 : (((pl[0]'h1).toNat : Int) == 35) = true := by rw [hh]; rfl
  clear hst hm hms p9 hh
  rw [show Nr 18 = .seq (stmtOf 18 nrBody) (Nr 19) from by kernel_rfl]
  have hz18 : stmtOf 18 nrBody = stmtOf 18 nrBody := rfl
  conv at hz18 => rhs; whnf
  rw [hz18]; clear hz18
  go_wp2_with (((with_reducible refine gate_store (t := 26) (p := 2) rfl ?_); refine store_new_event rfl rfl rfl rb (patI 0 0 0 0 0 0 0 0 ⟨#[]⟩ false 0 false) _ 26 rfl rfl HST.out.res (by kernel_rfl) rfl (patI_one _ _ _ _ _ _ _ _ _ _ _ _) ?_; intro W9 hW9 hput; have HB9 := Lib.hid (hput.below HST.out.below HST.out.rlo); have HR9 := Lib.hid hW9; clear hput hW9))
  refine bodyPost_ret (results_cell_tmp rfl _ _ rb 26 (patI 0 0 0 0 0 0 0 0 ⟨#[]⟩ false 0 false) (0, 0) _ rfl HR9.out Try.underlying26 rfl (by kernel_rfl)) rfl ?_
  exact ⟨rfl, HB9.out⟩
set_option maxHeartbeats 8000000 in
set_option maxRecDepth 1000000 in
theorem nr18_e (w W : World) (rb pb k sc : Nat) (sa : Option Addr) (sci : Bool) (pl : ByteArray) (p : N.NP) (r : N.NP × Int) (hb : sci = true) (hk : ¬ 1 < k) (hm : 0 < p.minSig) (h1 : 0 < pl.size) (hh : pl[0]'h1 ≠ 35) (hr : r = if N.over p then (N.np0, 8) else (p, 0)) (hst : Nst w W rb pb p) (h9 : p.inc.length ≤ 9223372036854775807) :
    Code.wp Try.prog (Nr 18) (bodyPost Try.prog Try.f14 (NPost r w)) ⟨#[v0,v1, .pointer (some ⟨rb, 0, none⟩),v3, .pointer (some ⟨pb, 0, none⟩),v5,v6, .bool sci,v8,v9,v10,v11,v12, .slice sa k sc, .string pl,v15,v16,v17,v18,v19,v20,v21,v22,v23,v24,v25,v26,v27,v28,v29,v30,v31,v32,v33,v34,v35,v36,v37,v38,v39,v40,v41,v42,v43,v44,v45,v46,v47,v48,v49,v50,v51,v52,v53,v54,v55,v56,v57,v58,v59,v60,v61,v62,v63,v64,v65,v66,v67,v68,v69,v70,v71,v72,v73,v74,v75,v76,v77,v78,v79,v80,v81,v82,v83,v84,v85,v86,v87,v88,v89,v90,v91,v92,v93,v94,v95,v96,v97,v98,v99,v100,v101,v102,v103,v104,v105,v106,v107,v108,v109,v110,v111,v112,v113,v114,v115,v116,v117,v118,v119,v120,v121,v122,v123,v124,v125,v126,v127,v128,v129,v130,v131,v132,v133,v134,v135,v136,v137,v138,v139,v140,v141,v142,v143,v144,v145,v146,v147,v148,v149,v150,v151,v152,v153,v154,v155,v156,v157,v158,v159,v160,v161,v162,v163,v164,v165,v166,v167,v168,v169,v170,v171,v172,v173,v174,v175,v176,v177,v178,v179,v180,v181,v182,v183,v184,v185,v186,v187,v188,v189,v190,v191,v192,v193,v194,v195,v196,v197,v198,v199,v200,v201,v202,v203,v204,v205,v206,v207,v208,v209,v210,v211,v212,v213,v214,v215,v216,v217,v218,v219,v220,v221,v222,v223,v224,v225,v226,v227,v228,v229,v230,v231,v232,v233,v234,v235,v236,v237,v238,v239,v240,v241,v242,v243,v244,v245,v246,v247,v248,v249,v250,v251,v252,v253,v254,v255,v256,v257,v258,v259,v260,v261,v262,v263,v264,v265,v266,v267,v268,v269,v270,v271,v272,v273,v274,v275,v276,v277,v278,v279,v280,v281,v282,v283,v284,v285,v286,v287,v288,v289,v290,v291,v292,v293,v294,v295,v296,v297,v298,v299,v300,v301,v302,v303,v304,v305,v306,v307,v308,v309,v310,v311,v312,v313,v314,v315,v316,v317,v318,v319,v320], []⟩ W := by
  subst hb
  have HST := Lib.hid hst
  have HR := Lib.hid hr
  have p9 := hst.cell 9
  obtain ⟨ms, hms⟩ : ∃ ms : Int, (p.minSig : Int) = ms := ⟨_, rfl⟩
  have p9' : W.cell? ⟨pb, 9, none⟩ = some (.int .i64 ms) := by rw [← hms]; exact p9
  have hpos : decide (0 < ms) = true := decide_eq_true (by omega)
  have h5 : (((pl[0]'h1).toNat : Int) == 35) = false := beq_eq_false_iff_ne.2 (fun e => hh (UInt8.toNat_inj.1 (by have : (pl[0]'h1).toNat = 35 := by omega
                                                                                                                  rw [this]; rfl)))
  clear hst hm hms p9 hh hr
  rw [show Nr 18 = .seq (stmtOf 18 nrBody) (Nr 19) from by kernel_rfl]
  have hz18 : stmtOf 18 nrBody = stmtOf 18 nrBody := rfl
  conv at hz18 => rhs; whnf
  rw [hz18]; clear hz18
  go_wp2
  exact nr19 w W rb pb p r HR.out HST.out h9
theorem head_at (pl : ByteArray) (h1 : 0 < pl.size) : (N.L pl).head? = some (pl[0]'h1) := by
  rw [List.head?_eq_getElem?]
  exact List.getElem?_eq_getElem (by rw [N.L_len]; exact h1)
/-- The stage of the mixed ones, whole. -/
theorem nr18 (w W : World) (rb pb k sc : Nat) (sa : Option Addr) (sci : Bool) (pl : ByteArray) (p : N.NP) (r : N.NP × Int) (hr : r = N.g18 p sci k (N.L pl)) (hp : 0 < p.minSig → 0 < pl.size) (hst : Nst w W rb pb p) (h9 : p.inc.length ≤ 9223372036854775807) :
    Code.wp Try.prog (Nr 18) (bodyPost Try.prog Try.f14 (NPost r w)) ⟨#[v0,v1, .pointer (some ⟨rb, 0, none⟩),v3, .pointer (some ⟨pb, 0, none⟩),v5,v6, .bool sci,v8,v9,v10,v11,v12, .slice sa k sc, .string pl,v15,v16,v17,v18,v19,v20,v21,v22,v23,v24,v25,v26,v27,v28,v29,v30,v31,v32,v33,v34,v35,v36,v37,v38,v39,v40,v41,v42,v43,v44,v45,v46,v47,v48,v49,v50,v51,v52,v53,v54,v55,v56,v57,v58,v59,v60,v61,v62,v63,v64,v65,v66,v67,v68,v69,v70,v71,v72,v73,v74,v75,v76,v77,v78,v79,v80,v81,v82,v83,v84,v85,v86,v87,v88,v89,v90,v91,v92,v93,v94,v95,v96,v97,v98,v99,v100,v101,v102,v103,v104,v105,v106,v107,v108,v109,v110,v111,v112,v113,v114,v115,v116,v117,v118,v119,v120,v121,v122,v123,v124,v125,v126,v127,v128,v129,v130,v131,v132,v133,v134,v135,v136,v137,v138,v139,v140,v141,v142,v143,v144,v145,v146,v147,v148,v149,v150,v151,v152,v153,v154,v155,v156,v157,v158,v159,v160,v161,v162,v163,v164,v165,v166,v167,v168,v169,v170,v171,v172,v173,v174,v175,v176,v177,v178,v179,v180,v181,v182,v183,v184,v185,v186,v187,v188,v189,v190,v191,v192,v193,v194,v195,v196,v197,v198,v199,v200,v201,v202,v203,v204,v205,v206,v207,v208,v209,v210,v211,v212,v213,v214,v215,v216,v217,v218,v219,v220,v221,v222,v223,v224,v225,v226,v227,v228,v229,v230,v231,v232,v233,v234,v235,v236,v237,v238,v239,v240,v241,v242,v243,v244,v245,v246,v247,v248,v249,v250,v251,v252,v253,v254,v255,v256,v257,v258,v259,v260,v261,v262,v263,v264,v265,v266,v267,v268,v269,v270,v271,v272,v273,v274,v275,v276,v277,v278,v279,v280,v281,v282,v283,v284,v285,v286,v287,v288,v289,v290,v291,v292,v293,v294,v295,v296,v297,v298,v299,v300,v301,v302,v303,v304,v305,v306,v307,v308,v309,v310,v311,v312,v313,v314,v315,v316,v317,v318,v319,v320], []⟩ W := by
  unfold N.g18 at hr
  by_cases hs : sci = true
  · by_cases hk : 1 < k
    · rw [if_pos ⟨hs, .inl hk⟩] at hr
      exact nr18_b w W rb pb k sc sa sci pl p r hs hk hr hst
    · by_cases hm : 0 < p.minSig
      · have h1 := hp hm
        by_cases hh : pl[0]'h1 = 35
        · rw [if_pos ⟨hs, .inr ⟨hm, by rw [head_at pl h1, hh]⟩⟩] at hr
          exact nr18_d w W rb pb k sc sa sci pl p r hs hk hm h1 hh hr hst
        · rw [if_neg (by
            rintro ⟨_, h | ⟨_, h⟩⟩
            · exact hk h
            · rw [head_at pl h1] at h
              exact hh (Option.some.inj h))] at hr
          exact nr18_e w W rb pb k sc sa sci pl p r hs hk hm h1 hh hr hst h9
      · rw [if_neg (by
          rintro ⟨_, h | ⟨h, _⟩⟩
          · exact hk h
          · exact hm h)] at hr
        exact nr18_c w W rb pb k sc sa sci pl p r hs hk (by omega) hr hst h9
  · rw [if_neg (fun h => hs h.1)] at hr
    exact nr18_a w W rb pb k sc sa sci pl p r (by simpa using hs) hr hst h9
/- The reference's Number: patterns of signs. -/

/-- The callees, at one text each: what they answer, as one value. -/
abbrev CntAt (s : ByteArray) (c : Int) (x : Int) : Prop := ∀ W, Calls Try.prog 33 #[.string s, .int .u8 c] W fun e w' => e = .returned (.int .i64 x) ∧ Below W.heap.size W w'
abbrev RowsAt (s : ByteArray) (a b c : Int) (x : Bool) : Prop := ∀ W, Calls Try.prog 34 #[.string s, .int .u8 a, .int .u8 b, .int .u8 c] W fun e w' => e = .returned (.bool x) ∧ Below W.heap.size W w'
abbrev StripAt (s t : ByteArray) : Prop := ∀ W, Calls Try.prog 32 #[.string s] W fun e w' => e = .returned (.string t) ∧ Below W.heap.size W w'
abbrev CutAt (s : ByteArray) (c : Int) (a b : ByteArray) (x : Bool) : Prop := ∀ W, Calls Try.prog 31 #[.string s, .int .u8 c] W fun e w' => e = .returned (.tuple #[.string a, .string b, .bool x]) ∧ Below W.heap.size W w'
theorem cnt_at (s : ByteArray) (c : UInt8) (h : c ≠ 48) (hs : s.size ≤ 1000000000) : CntAt s (c.toNat : Int) ((N.L s).count c : Nat) := fun W =>
  (rcount s c _ rfl h hs W).mono fun e w' ⟨n, he, hn, hb⟩ => ⟨by rw [he, hn], hb⟩
theorem cnt_dig (s : ByteArray) (hs : s.size ≤ 1000000000) : CntAt s 48 ((N.L s).countP N.dig : Nat) := fun W =>
  (rdigits s hs W).mono fun e w' ⟨n, he, hn, hb⟩ => ⟨by rw [he, hn], hb⟩
theorem rows_sigAt (s : ByteArray) (hs : s.size ≤ 1000000000) : RowsAt s 35 64 35 (N.rowsS (N.L s)) := fun W =>
  (rrows_sig s hs W).mono fun e w' ⟨n, he, hn, hb⟩ => ⟨by rw [he, hn]; rfl, hb⟩
theorem rows_intAt (s : ByteArray) (hs : s.size ≤ 1000000000) : RowsAt s 35 48 48 (N.rowsI (N.L s)) := fun W =>
  (rrows_hd s hs W).mono fun e w' ⟨n, he, hn, hb⟩ => ⟨by rw [he, hn]; rfl, hb⟩
theorem rows_fracAt (s : ByteArray) (hs : s.size ≤ 1000000000) : RowsAt s 48 35 35 (N.rowsF (N.L s)) := fun W =>
  (rrows_dh s hs W).mono fun e w' ⟨n, he, hn, hb⟩ => ⟨by rw [he, hn]; rfl, hb⟩
theorem strip_at (s : ByteArray) : StripAt s (mkB ((N.L s).dropWhile N.is0)) := fun W =>
  (rstrip s W).mono fun e w' ⟨n, he, hn, hb⟩ => ⟨by rw [he, hn], hb⟩
theorem cut_at (s : ByteArray) (c : UInt8) (hs : s.size ≤ 1000000000) : CutAt s (c.toNat : Int) (mkB (N.cutC c (N.L s)).1) (mkB (N.cutC c (N.L s)).2.1) (N.cutC c (N.L s)).2.2 := fun W =>
  (rcut s c _ rfl hs W).mono fun e w' ⟨a, b, f, he, h1, h2, h3, hb⟩ => ⟨by rw [he, h1, h2, h3], hb⟩

/- Nothing is there. -/
set_option maxHeartbeats 8000000 in
set_option maxRecDepth 1000000 in
theorem nr16_0 (w W : World) (rb pb k sc : Nat) (sa : Option Addr) (sci pt : Bool) (pl fr al : ByteArray) (p : N.NP) (r : N.NP × Int) (he : al.toList.isEmpty = true) (hr : r = (N.np0, 4)) (hst : Nst w W rb pb p) :
    Code.wp Try.prog (Nr 16) (bodyPost Try.prog Try.f14 (NPost r w)) ⟨#[v0,v1, .pointer (some ⟨rb, 0, none⟩),v3, .pointer (some ⟨pb, 0, none⟩),v5,v6, .bool sci,v8,v9,v10, .string fr, .bool pt, .slice sa k sc, .string pl,v15,v16,v17, .string al,v19,v20,v21,v22,v23,v24,v25,v26,v27,v28,v29,v30,v31,v32,v33,v34,v35,v36,v37,v38,v39,v40,v41,v42,v43,v44,v45,v46,v47,v48,v49,v50,v51,v52,v53,v54,v55,v56,v57,v58,v59,v60,v61,v62,v63,v64,v65,v66,v67,v68,v69,v70,v71,v72,v73,v74,v75,v76,v77,v78,v79,v80,v81,v82,v83,v84,v85,v86,v87,v88,v89,v90,v91,v92,v93,v94,v95,v96,v97,v98,v99,v100,v101,v102,v103,v104,v105,v106,v107,v108,v109,v110,v111,v112,v113,v114,v115,v116,v117,v118,v119,v120,v121,v122,v123,v124,v125,v126,v127,v128,v129,v130,v131,v132,v133,v134,v135,v136,v137,v138,v139,v140,v141,v142,v143,v144,v145,v146,v147,v148,v149,v150,v151,v152,v153,v154,v155,v156,v157,v158,v159,v160,v161,v162,v163,v164,v165,v166,v167,v168,v169,v170,v171,v172,v173,v174,v175,v176,v177,v178,v179,v180,v181,v182,v183,v184,v185,v186,v187,v188,v189,v190,v191,v192,v193,v194,v195,v196,v197,v198,v199,v200,v201,v202,v203,v204,v205,v206,v207,v208,v209,v210,v211,v212,v213,v214,v215,v216,v217,v218,v219,v220,v221,v222,v223,v224,v225,v226,v227,v228,v229,v230,v231,v232,v233,v234,v235,v236,v237,v238,v239,v240,v241,v242,v243,v244,v245,v246,v247,v248,v249,v250,v251,v252,v253,v254,v255,v256,v257,v258,v259,v260,v261,v262,v263,v264,v265,v266,v267,v268,v269,v270,v271,v272,v273,v274,v275,v276,v277,v278,v279,v280,v281,v282,v283,v284,v285,v286,v287,v288,v289,v290,v291,v292,v293,v294,v295,v296,v297,v298,v299,v300,v301,v302,v303,v304,v305,v306,v307,v308,v309,v310,v311,v312,v313,v314,v315,v316,v317,v318,v319,v320], []⟩ W := by
  subst hr
  have HST := Lib.hid hst
  clear hst
  rw [show Nr 16 = .seq (stmtOf 16 nrBody) (Nr 17) from by kernel_rfl]
  have hz16 : stmtOf 16 nrBody = stmtOf 16 nrBody := rfl
  conv at hz16 => rhs; whnf
  rw [hz16]; clear hz16
  go_wp2_with (((with_reducible refine gate_store (t := 26) (p := 2) rfl ?_); refine store_new_event rfl rfl rfl rb (patI 0 0 0 0 0 0 0 0 ⟨#[]⟩ false 0 false) _ 26 rfl rfl HST.out.res (by kernel_rfl) rfl (patI_one _ _ _ _ _ _ _ _ _ _ _ _) ?_; intro W9 hW9 hput; have HB9 := Lib.hid (hput.below HST.out.below HST.out.rlo); have HR9 := Lib.hid hW9; clear hput hW9))
  refine bodyPost_ret (results_cell_tmp rfl _ _ rb 26 (patI 0 0 0 0 0 0 0 0 ⟨#[]⟩ false 0 false) (0, 0) _ rfl HR9.out Try.underlying26 rfl (by kernel_rfl)) rfl ?_
  exact ⟨rfl, HB9.out⟩
/- A sign, and a point or a digit. -/
set_option maxHeartbeats 8000000 in
set_option maxRecDepth 1000000 in
theorem nr16_s6p (w W : World) (rb pb k sc : Nat) (sa : Option Addr) (sci pt : Bool) (pl fr al : ByteArray) (p : N.NP) (r : N.NP × Int) (ca : Int) (he : al.toList.isEmpty = false) (hca : decide (0 < ca) = true) (hpt : pt = true) (hr : r = (N.np0, 6)) (hst : Nst w W rb pb p) (HCA : Hid (CntAt al 64 ca)) :
    Code.wp Try.prog (Nr 16) (bodyPost Try.prog Try.f14 (NPost r w)) ⟨#[v0,v1, .pointer (some ⟨rb, 0, none⟩),v3, .pointer (some ⟨pb, 0, none⟩),v5,v6, .bool sci,v8,v9,v10, .string fr, .bool pt, .slice sa k sc, .string pl,v15,v16,v17, .string al,v19,v20,v21,v22,v23,v24,v25,v26,v27,v28,v29,v30,v31,v32,v33,v34,v35,v36,v37,v38,v39,v40,v41,v42,v43,v44,v45,v46,v47,v48,v49,v50,v51,v52,v53,v54,v55,v56,v57,v58,v59,v60,v61,v62,v63,v64,v65,v66,v67,v68,v69,v70,v71,v72,v73,v74,v75,v76,v77,v78,v79,v80,v81,v82,v83,v84,v85,v86,v87,v88,v89,v90,v91,v92,v93,v94,v95,v96,v97,v98,v99,v100,v101,v102,v103,v104,v105,v106,v107,v108,v109,v110,v111,v112,v113,v114,v115,v116,v117,v118,v119,v120,v121,v122,v123,v124,v125,v126,v127,v128,v129,v130,v131,v132,v133,v134,v135,v136,v137,v138,v139,v140,v141,v142,v143,v144,v145,v146,v147,v148,v149,v150,v151,v152,v153,v154,v155,v156,v157,v158,v159,v160,v161,v162,v163,v164,v165,v166,v167,v168,v169,v170,v171,v172,v173,v174,v175,v176,v177,v178,v179,v180,v181,v182,v183,v184,v185,v186,v187,v188,v189,v190,v191,v192,v193,v194,v195,v196,v197,v198,v199,v200,v201,v202,v203,v204,v205,v206,v207,v208,v209,v210,v211,v212,v213,v214,v215,v216,v217,v218,v219,v220,v221,v222,v223,v224,v225,v226,v227,v228,v229,v230,v231,v232,v233,v234,v235,v236,v237,v238,v239,v240,v241,v242,v243,v244,v245,v246,v247,v248,v249,v250,v251,v252,v253,v254,v255,v256,v257,v258,v259,v260,v261,v262,v263,v264,v265,v266,v267,v268,v269,v270,v271,v272,v273,v274,v275,v276,v277,v278,v279,v280,v281,v282,v283,v284,v285,v286,v287,v288,v289,v290,v291,v292,v293,v294,v295,v296,v297,v298,v299,v300,v301,v302,v303,v304,v305,v306,v307,v308,v309,v310,v311,v312,v313,v314,v315,v316,v317,v318,v319,v320], []⟩ W := by
  subst hr hpt
  have HS0 := Lib.hid hst
  clear hst
  rw [show Nr 16 = .seq (stmtOf 16 nrBody) (.seq (stmtOf 17 nrBody) (Nr 18)) from by kernel_rfl]
  have hz16 : stmtOf 16 nrBody = stmtOf 16 nrBody := rfl
  conv at hz16 => rhs; whnf
  rw [hz16]; clear hz16
  have hz17 : stmtOf 17 nrBody = stmtOf 17 nrBody := rfl
  conv at hz17 => rhs; whnf
  rw [hz17]; clear hz17
  go_wp2_with (first
    | (go_at_call 33; (with_reducible refine (HCA.out _).mono ?_); rintro e W1 ⟨rfl, b1⟩; have HST := Lib.hid (HS0.out.step b1); clear b1)
    | ((with_reducible refine gate_store (t := 26) (p := 2) rfl ?_); refine store_new_event rfl rfl rfl rb (patI 0 0 0 0 0 0 0 0 ⟨#[]⟩ false 0 false) _ 26 rfl rfl HST.out.res (by kernel_rfl) rfl (patI_one _ _ _ _ _ _ _ _ _ _ _ _) ?_; intro W9 hW9 hput; have HB9 := Lib.hid (hput.below HST.out.below HST.out.rlo); have HR9 := Lib.hid hW9; clear hput hW9))
  refine bodyPost_ret (results_cell_tmp rfl _ _ rb 26 (patI 0 0 0 0 0 0 0 0 ⟨#[]⟩ false 0 false) (0, 0) _ rfl HR9.out Try.underlying26 rfl (by kernel_rfl)) rfl ?_
  exact ⟨rfl, HB9.out⟩
set_option maxHeartbeats 8000000 in
set_option maxRecDepth 1000000 in
theorem nr16_s6d (w W : World) (rb pb k sc : Nat) (sa : Option Addr) (sci pt : Bool) (pl fr al : ByteArray) (p : N.NP) (r : N.NP × Int) (ca cd : Int) (he : al.toList.isEmpty = false) (hca : decide (0 < ca) = true) (hpt : pt = false) (hcd : decide (0 < cd) = true) (hr : r = (N.np0, 6)) (hst : Nst w W rb pb p) (HCA : Hid (CntAt al 64 ca)) (HCD : Hid (CntAt pl 48 cd)) :
    Code.wp Try.prog (Nr 16) (bodyPost Try.prog Try.f14 (NPost r w)) ⟨#[v0,v1, .pointer (some ⟨rb, 0, none⟩),v3, .pointer (some ⟨pb, 0, none⟩),v5,v6, .bool sci,v8,v9,v10, .string fr, .bool pt, .slice sa k sc, .string pl,v15,v16,v17, .string al,v19,v20,v21,v22,v23,v24,v25,v26,v27,v28,v29,v30,v31,v32,v33,v34,v35,v36,v37,v38,v39,v40,v41,v42,v43,v44,v45,v46,v47,v48,v49,v50,v51,v52,v53,v54,v55,v56,v57,v58,v59,v60,v61,v62,v63,v64,v65,v66,v67,v68,v69,v70,v71,v72,v73,v74,v75,v76,v77,v78,v79,v80,v81,v82,v83,v84,v85,v86,v87,v88,v89,v90,v91,v92,v93,v94,v95,v96,v97,v98,v99,v100,v101,v102,v103,v104,v105,v106,v107,v108,v109,v110,v111,v112,v113,v114,v115,v116,v117,v118,v119,v120,v121,v122,v123,v124,v125,v126,v127,v128,v129,v130,v131,v132,v133,v134,v135,v136,v137,v138,v139,v140,v141,v142,v143,v144,v145,v146,v147,v148,v149,v150,v151,v152,v153,v154,v155,v156,v157,v158,v159,v160,v161,v162,v163,v164,v165,v166,v167,v168,v169,v170,v171,v172,v173,v174,v175,v176,v177,v178,v179,v180,v181,v182,v183,v184,v185,v186,v187,v188,v189,v190,v191,v192,v193,v194,v195,v196,v197,v198,v199,v200,v201,v202,v203,v204,v205,v206,v207,v208,v209,v210,v211,v212,v213,v214,v215,v216,v217,v218,v219,v220,v221,v222,v223,v224,v225,v226,v227,v228,v229,v230,v231,v232,v233,v234,v235,v236,v237,v238,v239,v240,v241,v242,v243,v244,v245,v246,v247,v248,v249,v250,v251,v252,v253,v254,v255,v256,v257,v258,v259,v260,v261,v262,v263,v264,v265,v266,v267,v268,v269,v270,v271,v272,v273,v274,v275,v276,v277,v278,v279,v280,v281,v282,v283,v284,v285,v286,v287,v288,v289,v290,v291,v292,v293,v294,v295,v296,v297,v298,v299,v300,v301,v302,v303,v304,v305,v306,v307,v308,v309,v310,v311,v312,v313,v314,v315,v316,v317,v318,v319,v320], []⟩ W := by
  subst hr hpt
  have HS0 := Lib.hid hst
  clear hst
  rw [show Nr 16 = .seq (stmtOf 16 nrBody) (.seq (stmtOf 17 nrBody) (Nr 18)) from by kernel_rfl]
  have hz16 : stmtOf 16 nrBody = stmtOf 16 nrBody := rfl
  conv at hz16 => rhs; whnf
  rw [hz16]; clear hz16
  have hz17 : stmtOf 17 nrBody = stmtOf 17 nrBody := rfl
  conv at hz17 => rhs; whnf
  rw [hz17]; clear hz17
  go_wp2_with (first
    | (go_at_call 33; (with_reducible refine (HCA.out _).mono ?_); rintro e W1 ⟨rfl, b1⟩; have HS1 := Lib.hid (HS0.out.step b1); clear b1)
    | (go_at_call 33; (with_reducible refine (HCD.out _).mono ?_); rintro e W2 ⟨rfl, b2⟩; have HST := Lib.hid (HS1.out.step b2); clear b2)
    | ((with_reducible refine gate_store (t := 26) (p := 2) rfl ?_); refine store_new_event rfl rfl rfl rb (patI 0 0 0 0 0 0 0 0 ⟨#[]⟩ false 0 false) _ 26 rfl rfl HST.out.res (by kernel_rfl) rfl (patI_one _ _ _ _ _ _ _ _ _ _ _ _) ?_; intro W9 hW9 hput; have HB9 := Lib.hid (hput.below HST.out.below HST.out.rlo); have HR9 := Lib.hid hW9; clear hput hW9))
  refine bodyPost_ret (results_cell_tmp rfl _ _ rb 26 (patI 0 0 0 0 0 0 0 0 ⟨#[]⟩ false 0 false) (0, 0) _ rfl HR9.out Try.underlying26 rfl (by kernel_rfl)) rfl ?_
  exact ⟨rfl, HB9.out⟩
set_option maxHeartbeats 8000000 in
set_option maxRecDepth 1000000 in
theorem nr16_s4 (w W : World) (rb pb k sc : Nat) (sa : Option Addr) (sci pt : Bool) (pl fr al : ByteArray) (p : N.NP) (r : N.NP × Int) (ca cd : Int) (he : al.toList.isEmpty = false) (hca : decide (0 < ca) = true) (hpt : pt = false) (hcd : decide (0 < cd) = false) (hr : r = (N.np0, 4)) (hst : Nst w W rb pb p) (HCA : Hid (CntAt al 64 ca)) (HCD : Hid (CntAt pl 48 cd)) (HRW : Hid (RowsAt pl 35 64 35 false)) :
    Code.wp Try.prog (Nr 16) (bodyPost Try.prog Try.f14 (NPost r w)) ⟨#[v0,v1, .pointer (some ⟨rb, 0, none⟩),v3, .pointer (some ⟨pb, 0, none⟩),v5,v6, .bool sci,v8,v9,v10, .string fr, .bool pt, .slice sa k sc, .string pl,v15,v16,v17, .string al,v19,v20,v21,v22,v23,v24,v25,v26,v27,v28,v29,v30,v31,v32,v33,v34,v35,v36,v37,v38,v39,v40,v41,v42,v43,v44,v45,v46,v47,v48,v49,v50,v51,v52,v53,v54,v55,v56,v57,v58,v59,v60,v61,v62,v63,v64,v65,v66,v67,v68,v69,v70,v71,v72,v73,v74,v75,v76,v77,v78,v79,v80,v81,v82,v83,v84,v85,v86,v87,v88,v89,v90,v91,v92,v93,v94,v95,v96,v97,v98,v99,v100,v101,v102,v103,v104,v105,v106,v107,v108,v109,v110,v111,v112,v113,v114,v115,v116,v117,v118,v119,v120,v121,v122,v123,v124,v125,v126,v127,v128,v129,v130,v131,v132,v133,v134,v135,v136,v137,v138,v139,v140,v141,v142,v143,v144,v145,v146,v147,v148,v149,v150,v151,v152,v153,v154,v155,v156,v157,v158,v159,v160,v161,v162,v163,v164,v165,v166,v167,v168,v169,v170,v171,v172,v173,v174,v175,v176,v177,v178,v179,v180,v181,v182,v183,v184,v185,v186,v187,v188,v189,v190,v191,v192,v193,v194,v195,v196,v197,v198,v199,v200,v201,v202,v203,v204,v205,v206,v207,v208,v209,v210,v211,v212,v213,v214,v215,v216,v217,v218,v219,v220,v221,v222,v223,v224,v225,v226,v227,v228,v229,v230,v231,v232,v233,v234,v235,v236,v237,v238,v239,v240,v241,v242,v243,v244,v245,v246,v247,v248,v249,v250,v251,v252,v253,v254,v255,v256,v257,v258,v259,v260,v261,v262,v263,v264,v265,v266,v267,v268,v269,v270,v271,v272,v273,v274,v275,v276,v277,v278,v279,v280,v281,v282,v283,v284,v285,v286,v287,v288,v289,v290,v291,v292,v293,v294,v295,v296,v297,v298,v299,v300,v301,v302,v303,v304,v305,v306,v307,v308,v309,v310,v311,v312,v313,v314,v315,v316,v317,v318,v319,v320], []⟩ W := by
  subst hr hpt
  have HS0 := Lib.hid hst
  clear hst
  rw [show Nr 16 = .seq (stmtOf 16 nrBody) (.seq (stmtOf 17 nrBody) (Nr 18)) from by kernel_rfl]
  have hz16 : stmtOf 16 nrBody = stmtOf 16 nrBody := rfl
  conv at hz16 => rhs; whnf
  rw [hz16]; clear hz16
  have hz17 : stmtOf 17 nrBody = stmtOf 17 nrBody := rfl
  conv at hz17 => rhs; whnf
  rw [hz17]; clear hz17
  go_wp2_with (first
    | (go_at_call 33; (with_reducible refine (HCA.out _).mono ?_); rintro e W1 ⟨rfl, b1⟩; have HS1 := Lib.hid (HS0.out.step b1); clear b1)
    | (go_at_call 33; (with_reducible refine (HCD.out _).mono ?_); rintro e W2 ⟨rfl, b2⟩; have HS2 := Lib.hid (HS1.out.step b2); clear b2)
    | (go_at_call 34; (with_reducible refine (HRW.out _).mono ?_); rintro e W3 ⟨rfl, b3⟩; have HST := Lib.hid (HS2.out.step b3); clear b3)
    | ((with_reducible refine gate_store (t := 26) (p := 2) rfl ?_); refine store_new_event rfl rfl rfl rb (patI 0 0 0 0 0 0 0 0 ⟨#[]⟩ false 0 false) _ 26 rfl rfl HST.out.res (by kernel_rfl) rfl (patI_one _ _ _ _ _ _ _ _ _ _ _ _) ?_; intro W9 hW9 hput; have HB9 := Lib.hid (hput.below HST.out.below HST.out.rlo); have HR9 := Lib.hid hW9; clear hput hW9))
  refine bodyPost_ret (results_cell_tmp rfl _ _ rb 26 (patI 0 0 0 0 0 0 0 0 ⟨#[]⟩ false 0 false) (0, 0) _ rfl HR9.out Try.underlying26 rfl (by kernel_rfl)) rfl ?_
  exact ⟨rfl, HB9.out⟩
/- The reference's Number: patterns of signs, whole. -/

def pS (p : N.NP) (c m : Nat) : N.NP := { p with minSig := c, maxSig := m }
theorem pS_set9 (p : N.NP) (c : Nat) : (patN p).setIfInBounds 9 (.int .i64 (c : Int)) = patN { p with minSig := c } := by simp [patN]
theorem pS_set10 (p : N.NP) (c : Nat) : (patN p).setIfInBounds 10 (.int .i64 (c : Int)) = patN { p with maxSig := c } := by simp [patN]
theorem sp_at (a : UInt8 → Bool) (s : ByteArray) (j : Nat) (h : j < s.size) (hj : j ≤ N.sp a (N.L s)) : j < N.sp a (N.L s) ↔ a (s[j]'h) = true := by
  have key : ∀ (l : List UInt8) (j : Nat) (h : j < l.length), j ≤ N.sp a l → (j < N.sp a l ↔ a l[j] = true) := by
    intro l
    induction l with
    | nil => intro j h; exact absurd h (by simp)
    | cons b r ih =>
      intro j h hj
      unfold N.sp at hj ⊢
      by_cases hb : a b = true
      · rw [List.takeWhile_cons, if_pos hb] at hj ⊢
        cases j with
        | zero => simp [hb]
        | succ j =>
          have := ih j (by simpa using h) (by unfold N.sp; simpa using hj)
          unfold N.sp at this
          simpa using this
      · rw [List.takeWhile_cons, if_neg hb] at hj ⊢
        have : j = 0 := by simpa using hj
        subst this
        simp [hb]
  exact key (N.L s) j (by rw [N.L_len]; exact h) hj
set_option maxHeartbeats 8000000 in
set_option maxRecDepth 1000000 in
theorem nr16_s (w W : World) (rb pb k sc : Nat) (sa : Option Addr) (sci pt : Bool) (pl fr al : ByteArray) (p : N.NP) (r : N.NP × Int) (ca cd : Int) (cs n : Nat) (hn : pl.size = n) (hn9 : n ≤ 1000000000) (he : al.toList.isEmpty = false) (hca : decide (0 < ca) = true) (hpt : pt = false) (hcd : decide (0 < cd) = false)
    (hsp : N.sp N.isH (N.L pl) < n) (hr : r = N.g18 (pS p cs (n - N.sp N.isH (N.L pl))) sci k (N.L pl)) (hst : Nst w W rb pb p) (h9 : p.inc.length ≤ 9223372036854775807) (HCA : Hid (CntAt al 64 ca)) (HCD : Hid (CntAt pl 48 cd)) (HRW : Hid (RowsAt pl 35 64 35 true)) (HCS : Hid (CntAt pl 64 cs)) :
    Code.wp Try.prog (Nr 16) (bodyPost Try.prog Try.f14 (NPost r w)) ⟨#[v0,v1, .pointer (some ⟨rb, 0, none⟩),v3, .pointer (some ⟨pb, 0, none⟩),v5,v6, .bool sci,v8,v9,v10, .string fr, .bool pt, .slice sa k sc, .string pl,v15,v16,v17, .string al,v19,v20,v21,v22,v23,v24,v25,v26,v27,v28,v29,v30,v31,v32,v33,v34,v35,v36,v37,v38,v39,v40,v41,v42,v43,v44,v45,v46,v47,v48,v49,v50,v51,v52,v53,v54,v55,v56,v57,v58,v59,v60,v61,v62,v63,v64,v65,v66,v67,v68,v69,v70,v71,v72,v73,v74,v75,v76,v77,v78,v79,v80,v81,v82,v83,v84,v85,v86,v87,v88,v89,v90,v91,v92,v93,v94,v95,v96,v97,v98,v99,v100,v101,v102,v103,v104,v105,v106,v107,v108,v109,v110,v111,v112,v113,v114,v115,v116,v117,v118,v119,v120,v121,v122,v123,v124,v125,v126,v127,v128,v129,v130,v131,v132,v133,v134,v135,v136,v137,v138,v139,v140,v141,v142,v143,v144,v145,v146,v147,v148,v149,v150,v151,v152,v153,v154,v155,v156,v157,v158,v159,v160,v161,v162,v163,v164,v165,v166,v167,v168,v169,v170,v171,v172,v173,v174,v175,v176,v177,v178,v179,v180,v181,v182,v183,v184,v185,v186,v187,v188,v189,v190,v191,v192,v193,v194,v195,v196,v197,v198,v199,v200,v201,v202,v203,v204,v205,v206,v207,v208,v209,v210,v211,v212,v213,v214,v215,v216,v217,v218,v219,v220,v221,v222,v223,v224,v225,v226,v227,v228,v229,v230,v231,v232,v233,v234,v235,v236,v237,v238,v239,v240,v241,v242,v243,v244,v245,v246,v247,v248,v249,v250,v251,v252,v253,v254,v255,v256,v257,v258,v259,v260,v261,v262,v263,v264,v265,v266,v267,v268,v269,v270,v271,v272,v273,v274,v275,v276,v277,v278,v279,v280,v281,v282,v283,v284,v285,v286,v287,v288,v289,v290,v291,v292,v293,v294,v295,v296,v297,v298,v299,v300,v301,v302,v303,v304,v305,v306,v307,v308,v309,v310,v311,v312,v313,v314,v315,v316,v317,v318,v319,v320], []⟩ W := by
  subst hpt
  have HR := Lib.hid hr
  have HS0 := Lib.hid hst
  have HSP := Lib.hid hsp
  clear hst hr hsp
  rw [show Nr 16 = .seq (stmtOf 16 nrBody) (.seq (stmtOf 17 nrBody) (Nr 18)) from by kernel_rfl]
  have hz16 : stmtOf 16 nrBody = stmtOf 16 nrBody := rfl
  conv at hz16 => rhs; whnf
  rw [hz16]; clear hz16
  have hz17 : stmtOf 17 nrBody = stmtOf 17 nrBody := rfl
  conv at hz17 => rhs; whnf
  rw [hz17]; clear hz17
  go_wp2_with (first
    | (go_at_call 33; (with_reducible refine (HCA.out _).mono ?_); rintro e W1 ⟨rfl, b1⟩; have HS1 := Lib.hid (HS0.out.step b1); clear b1)
    | (go_at_call 33; (with_reducible refine (HCD.out _).mono ?_); rintro e W2 ⟨rfl, b2⟩; have HS2 := Lib.hid (HS1.out.step b2); clear b2)
    | (go_at_call 34; (with_reducible refine (HRW.out _).mono ?_); rintro e W3 ⟨rfl, b3⟩; have HS3 := Lib.hid (HS2.out.step b3); clear b3)
    | (go_at_call 33; (with_reducible refine (HCS.out _).mono ?_); rintro e W4 ⟨rfl, b4⟩; have hs4 := HS3.out.step b4; have p9 : W4.cell? ⟨pb, 9, none⟩ = some (.int .i64 p.minSig) := hs4.cell 9; have p10 : W4.cell? ⟨pb, 10, none⟩ = some (.int .i64 p.maxSig) := hs4.cell 10; have pfz := hs4.frozen; have HS4 := Lib.hid hs4; clear b4 hs4))
  obtain ⟨W5, hW5⟩ : ∃ W5, W5 = (W4.setCell ⟨pb, 9, none⟩ (.int .i64 (cs : Int))).setCell ⟨pb, 10, none⟩ (.int .i64 (n : Int)) := ⟨_, rfl⟩
  have hs5 : Nst w W5 rb pb (pS p cs n) := by rw [hW5]; exact (HS4.out.set 9 _ (pS_set9 p cs)).set 10 _ (pS_set10 _ n)
  have HS5 := Lib.hid hs5
  rw [← hW5]
  clear hW5 hs5 p9 p10 pfz HS4
  go_loopw [210] (fun _ wr => ∃ j m : Nat, j + m = n ∧ j ≤ N.sp N.isH (N.L pl) ∧ Nst w wr rb pb (pS p cs m)) (fun _ wr => (RowKit.intOf ((wr.cell? ⟨pb, 10, none⟩).getD undef)).toNat)
  case atStart => exact ⟨0, n, by omega, by omega, HS5.out⟩
  case round =>
    obtain ⟨j, m, hjm, hj, hs⟩ := hrel
    have hjn : j < n := Nat.lt_of_le_of_lt hj HSP.out
    obtain ⟨m, rfl⟩ : ∃ m', m = m' + 1 := ⟨m - 1, by omega⟩
    have p10 : wr.cell? ⟨pb, 10, none⟩ = some (.int .i64 (m + 1 : Nat)) := hs.cell 10
    have pfz := hs.frozen
    have HS := Lib.hid hs
    clear hs
    have HJ := Lib.hid hj
    clear hj
    go_wp2
    · have hb : (((pl[n - (m + 1)]'(by omega)).toNat : Int) == 35) = true := by assumption
      have hs2 : Nst w (wr.setCell ⟨pb, 10, none⟩ (.int .i64 (m : Int))) rb pb (pS p cs m) := HS.out.set 10 _ (pS_set10 _ m)
      refine ⟨⟨j + 1, m, by omega, ?_, hs2⟩, ?_⟩
      · refine (sp_at N.isH pl j (by omega) HJ.out).2 ?_
        rw [N.isH_iff]
        have e : n - (m + 1) = j := by omega
        simp only [e] at hb
        exact UInt8.toNat_inj.1 (by have := beq_iff_eq.1 hb; have e35 : (35 : UInt8).toNat = 35 := rfl; omega)
      · rw [show (wr.setCell ⟨pb, 10, none⟩ (.int .i64 (m : Int))).cell? ⟨pb, 10, none⟩ = some (.int .i64 (m : Int)) from hs2.cell 10, p10]
        simp [RowKit.intOf]
    · have hb : (((pl[n - (m + 1)]'(by omega)).toNat : Int) == 35) = false := by assumption
      have e : n - (m + 1) = j := by omega
      simp only [e] at hb
      have hne : ¬ j < N.sp N.isH (N.L pl) := fun h => by
        have := (sp_at N.isH pl j (by omega) HJ.out).1 h
        rw [N.isH_iff] at this
        rw [this] at hb
        exact absurd hb (by decide)
      have hj := HJ.out
      have e2 : m + 1 = n - N.sp N.isH (N.L pl) := by omega
      exact nr18 w wr rb pb k sc sa sci pl _ r (by rw [HR.out, ← e2]) (fun _ => by omega) HS.out h9
/- The reference's Number: the exponent says no. Printed by this session's own program (wip/tools/mk_number.py). -/

/-- The zero pattern, written out. -/
abbrev ZP : Array Value := #[.slice none 0 0, .slice none 0 0, .bool false, .slice none 0 0, .slice none 0 0, .int .i64 0, .int .i64 0, .int .i64 0, .int .i64 0, .int .i64 0, .int .i64 0, .int .i64 0, .int .i64 0, .string ⟨#[]⟩, .bool false, .int .i64 0, .bool false, .int .i64 0, .int .i32 0, .int .i64 0]
set_option maxHeartbeats 8000000 in
set_option maxRecDepth 1000000 in
theorem nr_exp4b (s bd ex xx st : ByteArray) (w : World) (hxx : ex = xx) (h1 : 0 < ex.size) (h2 : ((ex[0]'h1).toNat : Int) ≠ 43) (h3 : xx.toList.isEmpty = false) (h4 : st.toList.isEmpty = false)
    (HCUT : Hid (∀ W, Calls Try.prog 31 #[.string s, .int .u8 69] W fun e w' => e = .returned (.tuple #[.string bd, .string ex, .bool true]) ∧ Below W.heap.size W w'))
    (HSTR : Hid (∀ W, Calls Try.prog 32 #[.string xx] W fun e w' => e = .returned (.string st) ∧ Below W.heap.size W w')) :
    Calls Try.prog 14 #[.string s] w fun e w' => e = .returned (.tuple #[.agg (patI 0 0 0 0 0 0 0 0 ⟨#[]⟩ false 0 false), .int .i64 4]) ∧ Below w.heap.size w w' := by
  subst hxx
  have h5 : (((ex[0]'h1).toNat : Int) == 43) = false := beq_eq_false_iff_ne.2 h2
  clear h2
  have HA := heap_alloc_new w (.cells ZP 26 (0, 0))
  have HBV := Lib.hid ((Below.refl w.heap.size w).alloc (Nat.le_refl _) (.cells ZP 26 (0, 0)))
  obtain ⟨V, hV⟩ : ∃ V, V = w.alloc (.cells ZP 26 (0, 0)) := ⟨_, rfl⟩
  rw [← hV] at HA HBV
  have HAV := Lib.hid HA
  have hvw := hV.symm
  unfold ZP at hvw
  clear HA hV
  have hgP := HBV.out.size
  go_enter Try.func14, Try.ntmps14
  go_wp2_with (first
    | ((with_reducible refine gate_store (t := 26) (p := 2) rfl ?_); refine store_new_event rfl rfl rfl w.heap.size (patI 0 0 0 0 0 0 0 0 ⟨#[]⟩ false 0 false) _ 26 rfl rfl HA3.out (by kernel_rfl) rfl (patI_one _ _ _ _ _ _ _ _ _ _ _ _) ?_; intro W9 hW9 hput; have HB9 := Lib.hid (hput.below HB3.out (Nat.le_refl _)); have HR9 := Lib.hid hW9; clear hput hW9)
    | (go_at_call 32; (with_reducible refine (HSTR.out _).mono ?_); rintro e W3 ⟨rfl, b3⟩; have HB3 := Lib.hid (below_step HB2.out b3); have HA3 := Lib.hid (heap_keeps b3 HA2.out); clear b3)
    | (go_at_call 31; (with_reducible refine (HCUT.out _).mono ?_); rintro e W2 ⟨rfl, b2⟩; have HB2 := Lib.hid (below_step HB1.out b2); have hP2 := heap_keeps b2 HP1.out; have HA2 := Lib.hid (heap_keeps b2 HA1.out); have p14 : W2.cell? ⟨V.heap.size, 14, none⟩ = some (.bool false) := blk_cell hP2 14; have p15 : W2.cell? ⟨V.heap.size, 15, none⟩ = some (.int .i64 0) := blk_cell hP2 15; have p16 : W2.cell? ⟨V.heap.size, 16, none⟩ = some (.bool false) := blk_cell hP2 16; have pfz := blk_frozen hP2; have HP2 := Lib.hid hP2; clear b2 hP2)
    | ((with_reducible refine gate_store (t := 26) (p := 4) rfl ?_); refine store_new_event rfl rfl rfl V.heap.size (patI 0 0 0 0 0 0 0 0 ⟨#[]⟩ false 0 false) _ 26 rfl rfl (heap_alloc_new V _) (by kernel_rfl) rfl (patI_one _ _ _ _ _ _ _ _ _ _ _ _) ?_; intro W1 hW1 hput; have HB1 := Lib.hid (hput.below (HBV.out.alloc HBV.out.size _) HBV.out.size); have HP1 := Lib.hid hW1; have HA1 := Lib.hid (hput.other (blk_alloc HAV.out _) (Nat.ne_of_lt (blk_lt HAV.out))); clear hput hW1))
  refine bodyPost_ret (results_cell_tmp rfl _ _ w.heap.size 26 (patI 0 0 0 0 0 0 0 0 ⟨#[]⟩ false 0 false) (0, 0) _ rfl HR9.out Try.underlying26 rfl (by kernel_rfl)) rfl ?_
  exact ⟨rfl, HB9.out⟩
set_option maxHeartbeats 8000000 in
set_option maxRecDepth 1000000 in
theorem nr_exp4d (s bd ex xx st : ByteArray) (w : World) (h1 : 0 < ex.size) (h2 : ((ex[0]'h1).toNat : Int) = 43) (hxx : ex.extract 1 ex.size = xx) (h3 : xx.toList.isEmpty = false) (h4 : st.toList.isEmpty = false)
    (HCUT : Hid (∀ W, Calls Try.prog 31 #[.string s, .int .u8 69] W fun e w' => e = .returned (.tuple #[.string bd, .string ex, .bool true]) ∧ Below W.heap.size W w'))
    (HSTR : Hid (∀ W, Calls Try.prog 32 #[.string xx] W fun e w' => e = .returned (.string st) ∧ Below W.heap.size W w')) :
    Calls Try.prog 14 #[.string s] w fun e w' => e = .returned (.tuple #[.agg (patI 0 0 0 0 0 0 0 0 ⟨#[]⟩ false 0 false), .int .i64 4]) ∧ Below w.heap.size w w' := by
  have h5 : (((ex[0]'h1).toNat : Int) == 43) = true := beq_iff_eq.2 h2
  have h6 : (1 : Int) ≤ (ex.size : Int) := by omega
  clear h2
  have HA := heap_alloc_new w (.cells ZP 26 (0, 0))
  have HBV := Lib.hid ((Below.refl w.heap.size w).alloc (Nat.le_refl _) (.cells ZP 26 (0, 0)))
  obtain ⟨V, hV⟩ : ∃ V, V = w.alloc (.cells ZP 26 (0, 0)) := ⟨_, rfl⟩
  rw [← hV] at HA HBV
  have HAV := Lib.hid HA
  have hvw := hV.symm
  unfold ZP at hvw
  clear HA hV
  have hgP := HBV.out.size
  go_enter Try.func14, Try.ntmps14
  go_wp2_with (first
    | ((with_reducible refine gate_store (t := 26) (p := 2) rfl ?_); refine store_new_event rfl rfl rfl w.heap.size (patI 0 0 0 0 0 0 0 0 ⟨#[]⟩ false 0 false) _ 26 rfl rfl HA3.out (by kernel_rfl) rfl (patI_one _ _ _ _ _ _ _ _ _ _ _ _) ?_; intro W9 hW9 hput; have HB9 := Lib.hid (hput.below HB3.out (Nat.le_refl _)); have HR9 := Lib.hid hW9; clear hput hW9)
    | (go_at_call 32; (with_reducible refine (HSTR.out _).mono ?_); rintro e W3 ⟨rfl, b3⟩; have HB3 := Lib.hid (below_step (below_set HB2.out hgP) b3); have HA3 := Lib.hid (heap_keeps b3 ((Below.heap_setCell W2 ⟨V.heap.size, 16, none⟩ _ w.heap.size (Nat.ne_of_lt (blk_lt HAV.out))).trans HA2.out)); clear b3)
    | (go_at_call 31; (with_reducible refine (HCUT.out _).mono ?_); rintro e W2 ⟨rfl, b2⟩; have HB2 := Lib.hid (below_step HB1.out b2); have hP2 := heap_keeps b2 HP1.out; have HA2 := Lib.hid (heap_keeps b2 HA1.out); have p14 : W2.cell? ⟨V.heap.size, 14, none⟩ = some (.bool false) := blk_cell hP2 14; have p15 : W2.cell? ⟨V.heap.size, 15, none⟩ = some (.int .i64 0) := blk_cell hP2 15; have p16 : W2.cell? ⟨V.heap.size, 16, none⟩ = some (.bool false) := blk_cell hP2 16; have pfz := blk_frozen hP2; have HP2 := Lib.hid hP2; clear b2 hP2)
    | ((with_reducible refine gate_store (t := 26) (p := 4) rfl ?_); refine store_new_event rfl rfl rfl V.heap.size (patI 0 0 0 0 0 0 0 0 ⟨#[]⟩ false 0 false) _ 26 rfl rfl (heap_alloc_new V _) (by kernel_rfl) rfl (patI_one _ _ _ _ _ _ _ _ _ _ _ _) ?_; intro W1 hW1 hput; have HB1 := Lib.hid (hput.below (HBV.out.alloc HBV.out.size _) HBV.out.size); have HP1 := Lib.hid hW1; have HA1 := Lib.hid (hput.other (blk_alloc HAV.out _) (Nat.ne_of_lt (blk_lt HAV.out))); clear hput hW1))
  refine bodyPost_ret (results_cell_tmp rfl _ _ w.heap.size 26 (patI 0 0 0 0 0 0 0 0 ⟨#[]⟩ false 0 false) (0, 0) _ rfl HR9.out Try.underlying26 rfl (by kernel_rfl)) rfl ?_
  exact ⟨rfl, HB9.out⟩
set_option maxHeartbeats 8000000 in
set_option maxRecDepth 1000000 in
theorem nr_exp4a (s bd ex xx st : ByteArray) (w : World) (hxx : ex = xx) (h1 : ex.size = 0) (h3 : xx.toList.isEmpty = true)
    (HCUT : Hid (∀ W, Calls Try.prog 31 #[.string s, .int .u8 69] W fun e w' => e = .returned (.tuple #[.string bd, .string ex, .bool true]) ∧ Below W.heap.size W w'))
    (HSTR : Hid (∀ W, Calls Try.prog 32 #[.string xx] W fun e w' => e = .returned (.string st) ∧ Below W.heap.size W w')) :
    Calls Try.prog 14 #[.string s] w fun e w' => e = .returned (.tuple #[.agg (patI 0 0 0 0 0 0 0 0 ⟨#[]⟩ false 0 false), .int .i64 4]) ∧ Below w.heap.size w w' := by
  subst hxx
  have HA := heap_alloc_new w (.cells ZP 26 (0, 0))
  have HBV := Lib.hid ((Below.refl w.heap.size w).alloc (Nat.le_refl _) (.cells ZP 26 (0, 0)))
  obtain ⟨V, hV⟩ : ∃ V, V = w.alloc (.cells ZP 26 (0, 0)) := ⟨_, rfl⟩
  rw [← hV] at HA HBV
  have HAV := Lib.hid HA
  have hvw := hV.symm
  unfold ZP at hvw
  clear HA hV
  have hgP := HBV.out.size
  go_enter Try.func14, Try.ntmps14
  go_wp2_with (first
    | ((with_reducible refine gate_store (t := 26) (p := 2) rfl ?_); refine store_new_event rfl rfl rfl w.heap.size (patI 0 0 0 0 0 0 0 0 ⟨#[]⟩ false 0 false) _ 26 rfl rfl HA2.out (by kernel_rfl) rfl (patI_one _ _ _ _ _ _ _ _ _ _ _ _) ?_; intro W9 hW9 hput; have HB9 := Lib.hid (hput.below HB2.out (Nat.le_refl _)); have HR9 := Lib.hid hW9; clear hput hW9)
    | (go_at_call 31; (with_reducible refine (HCUT.out _).mono ?_); rintro e W2 ⟨rfl, b2⟩; have HB2 := Lib.hid (below_step HB1.out b2); have hP2 := heap_keeps b2 HP1.out; have HA2 := Lib.hid (heap_keeps b2 HA1.out); have p14 : W2.cell? ⟨V.heap.size, 14, none⟩ = some (.bool false) := blk_cell hP2 14; have p15 : W2.cell? ⟨V.heap.size, 15, none⟩ = some (.int .i64 0) := blk_cell hP2 15; have p16 : W2.cell? ⟨V.heap.size, 16, none⟩ = some (.bool false) := blk_cell hP2 16; have pfz := blk_frozen hP2; have HP2 := Lib.hid hP2; clear b2 hP2)
    | ((with_reducible refine gate_store (t := 26) (p := 4) rfl ?_); refine store_new_event rfl rfl rfl V.heap.size (patI 0 0 0 0 0 0 0 0 ⟨#[]⟩ false 0 false) _ 26 rfl rfl (heap_alloc_new V _) (by kernel_rfl) rfl (patI_one _ _ _ _ _ _ _ _ _ _ _ _) ?_; intro W1 hW1 hput; have HB1 := Lib.hid (hput.below (HBV.out.alloc HBV.out.size _) HBV.out.size); have HP1 := Lib.hid hW1; have HA1 := Lib.hid (hput.other (blk_alloc HAV.out _) (Nat.ne_of_lt (blk_lt HAV.out))); clear hput hW1))
  refine bodyPost_ret (results_cell_tmp rfl _ _ w.heap.size 26 (patI 0 0 0 0 0 0 0 0 ⟨#[]⟩ false 0 false) (0, 0) _ rfl HR9.out Try.underlying26 rfl (by kernel_rfl)) rfl ?_
  exact ⟨rfl, HB9.out⟩
set_option maxHeartbeats 8000000 in
set_option maxRecDepth 1000000 in
theorem nr_exp4c (s bd ex xx st : ByteArray) (w : World) (h1 : 0 < ex.size) (h2 : ((ex[0]'h1).toNat : Int) = 43) (hxx : ex.extract 1 ex.size = xx) (h3 : xx.toList.isEmpty = true)
    (HCUT : Hid (∀ W, Calls Try.prog 31 #[.string s, .int .u8 69] W fun e w' => e = .returned (.tuple #[.string bd, .string ex, .bool true]) ∧ Below W.heap.size W w'))
    (HSTR : Hid (∀ W, Calls Try.prog 32 #[.string xx] W fun e w' => e = .returned (.string st) ∧ Below W.heap.size W w')) :
    Calls Try.prog 14 #[.string s] w fun e w' => e = .returned (.tuple #[.agg (patI 0 0 0 0 0 0 0 0 ⟨#[]⟩ false 0 false), .int .i64 4]) ∧ Below w.heap.size w w' := by
  have h5 : (((ex[0]'h1).toNat : Int) == 43) = true := beq_iff_eq.2 h2
  have h6 : (1 : Int) ≤ (ex.size : Int) := by omega
  clear h2
  have HA := heap_alloc_new w (.cells ZP 26 (0, 0))
  have HBV := Lib.hid ((Below.refl w.heap.size w).alloc (Nat.le_refl _) (.cells ZP 26 (0, 0)))
  obtain ⟨V, hV⟩ : ∃ V, V = w.alloc (.cells ZP 26 (0, 0)) := ⟨_, rfl⟩
  rw [← hV] at HA HBV
  have HAV := Lib.hid HA
  have hvw := hV.symm
  unfold ZP at hvw
  clear HA hV
  have hgP := HBV.out.size
  go_enter Try.func14, Try.ntmps14
  go_wp2_with (first
    | ((with_reducible refine gate_store (t := 26) (p := 2) rfl ?_); refine store_new_event rfl rfl rfl w.heap.size (patI 0 0 0 0 0 0 0 0 ⟨#[]⟩ false 0 false) _ 26 rfl rfl ((Below.heap_setCell W2 ⟨V.heap.size, 16, none⟩ _ w.heap.size (Nat.ne_of_lt (blk_lt HAV.out))).trans HA2.out) (by kernel_rfl) rfl (patI_one _ _ _ _ _ _ _ _ _ _ _ _) ?_; intro W9 hW9 hput; have HB9 := Lib.hid (hput.below (below_set HB2.out hgP) (Nat.le_refl _)); have HR9 := Lib.hid hW9; clear hput hW9)
    | (go_at_call 31; (with_reducible refine (HCUT.out _).mono ?_); rintro e W2 ⟨rfl, b2⟩; have HB2 := Lib.hid (below_step HB1.out b2); have hP2 := heap_keeps b2 HP1.out; have HA2 := Lib.hid (heap_keeps b2 HA1.out); have p14 : W2.cell? ⟨V.heap.size, 14, none⟩ = some (.bool false) := blk_cell hP2 14; have p15 : W2.cell? ⟨V.heap.size, 15, none⟩ = some (.int .i64 0) := blk_cell hP2 15; have p16 : W2.cell? ⟨V.heap.size, 16, none⟩ = some (.bool false) := blk_cell hP2 16; have pfz := blk_frozen hP2; have HP2 := Lib.hid hP2; clear b2 hP2)
    | ((with_reducible refine gate_store (t := 26) (p := 4) rfl ?_); refine store_new_event rfl rfl rfl V.heap.size (patI 0 0 0 0 0 0 0 0 ⟨#[]⟩ false 0 false) _ 26 rfl rfl (heap_alloc_new V _) (by kernel_rfl) rfl (patI_one _ _ _ _ _ _ _ _ _ _ _ _) ?_; intro W1 hW1 hput; have HB1 := Lib.hid (hput.below (HBV.out.alloc HBV.out.size _) HBV.out.size); have HP1 := Lib.hid hW1; have HA1 := Lib.hid (hput.other (blk_alloc HAV.out _) (Nat.ne_of_lt (blk_lt HAV.out))); clear hput hW1))
  refine bodyPost_ret (results_cell_tmp rfl _ _ w.heap.size 26 (patI 0 0 0 0 0 0 0 0 ⟨#[]⟩ false 0 false) (0, 0) _ rfl HR9.out Try.underlying26 rfl (by kernel_rfl)) rfl ?_
  exact ⟨rfl, HB9.out⟩
set_option maxHeartbeats 8000000 in
set_option maxRecDepth 1000000 in
theorem nr_exp8b (s bd ex xx st : ByteArray) (w : World) (hxx : ex = xx) (h1 : 0 < ex.size) (h2 : ((ex[0]'h1).toNat : Int) ≠ 43) (h3 : xx.toList.isEmpty = false) (h4 : st.toList.isEmpty = true) (h9 : decide ((9 : Int) < (xx.size : Int)) = true)
    (HCUT : Hid (∀ W, Calls Try.prog 31 #[.string s, .int .u8 69] W fun e w' => e = .returned (.tuple #[.string bd, .string ex, .bool true]) ∧ Below W.heap.size W w'))
    (HSTR : Hid (∀ W, Calls Try.prog 32 #[.string xx] W fun e w' => e = .returned (.string st) ∧ Below W.heap.size W w')) :
    Calls Try.prog 14 #[.string s] w fun e w' => e = .returned (.tuple #[.agg (patI 0 0 0 0 0 0 0 0 ⟨#[]⟩ false 0 false), .int .i64 8]) ∧ Below w.heap.size w w' := by
  subst hxx
  have h5 : (((ex[0]'h1).toNat : Int) == 43) = false := beq_eq_false_iff_ne.2 h2
  clear h2
  have HA := heap_alloc_new w (.cells ZP 26 (0, 0))
  have HBV := Lib.hid ((Below.refl w.heap.size w).alloc (Nat.le_refl _) (.cells ZP 26 (0, 0)))
  obtain ⟨V, hV⟩ : ∃ V, V = w.alloc (.cells ZP 26 (0, 0)) := ⟨_, rfl⟩
  rw [← hV] at HA HBV
  have HAV := Lib.hid HA
  have hvw := hV.symm
  unfold ZP at hvw
  clear HA hV
  have hgP := HBV.out.size
  go_enter Try.func14, Try.ntmps14
  go_wp2_with (first
    | ((with_reducible refine gate_store (t := 26) (p := 2) rfl ?_); refine store_new_event rfl rfl rfl w.heap.size (patI 0 0 0 0 0 0 0 0 ⟨#[]⟩ false 0 false) _ 26 rfl rfl HA3.out (by kernel_rfl) rfl (patI_one _ _ _ _ _ _ _ _ _ _ _ _) ?_; intro W9 hW9 hput; have HB9 := Lib.hid (hput.below HB3.out (Nat.le_refl _)); have HR9 := Lib.hid hW9; clear hput hW9)
    | (go_at_call 32; (with_reducible refine (HSTR.out _).mono ?_); rintro e W3 ⟨rfl, b3⟩; have HB3 := Lib.hid (below_step HB2.out b3); have HA3 := Lib.hid (heap_keeps b3 HA2.out); clear b3)
    | (go_at_call 31; (with_reducible refine (HCUT.out _).mono ?_); rintro e W2 ⟨rfl, b2⟩; have HB2 := Lib.hid (below_step HB1.out b2); have hP2 := heap_keeps b2 HP1.out; have HA2 := Lib.hid (heap_keeps b2 HA1.out); have p14 : W2.cell? ⟨V.heap.size, 14, none⟩ = some (.bool false) := blk_cell hP2 14; have p15 : W2.cell? ⟨V.heap.size, 15, none⟩ = some (.int .i64 0) := blk_cell hP2 15; have p16 : W2.cell? ⟨V.heap.size, 16, none⟩ = some (.bool false) := blk_cell hP2 16; have pfz := blk_frozen hP2; have HP2 := Lib.hid hP2; clear b2 hP2)
    | ((with_reducible refine gate_store (t := 26) (p := 4) rfl ?_); refine store_new_event rfl rfl rfl V.heap.size (patI 0 0 0 0 0 0 0 0 ⟨#[]⟩ false 0 false) _ 26 rfl rfl (heap_alloc_new V _) (by kernel_rfl) rfl (patI_one _ _ _ _ _ _ _ _ _ _ _ _) ?_; intro W1 hW1 hput; have HB1 := Lib.hid (hput.below (HBV.out.alloc HBV.out.size _) HBV.out.size); have HP1 := Lib.hid hW1; have HA1 := Lib.hid (hput.other (blk_alloc HAV.out _) (Nat.ne_of_lt (blk_lt HAV.out))); clear hput hW1))
  refine bodyPost_ret (results_cell_tmp rfl _ _ w.heap.size 26 (patI 0 0 0 0 0 0 0 0 ⟨#[]⟩ false 0 false) (0, 0) _ rfl HR9.out Try.underlying26 rfl (by kernel_rfl)) rfl ?_
  exact ⟨rfl, HB9.out⟩
set_option maxHeartbeats 8000000 in
set_option maxRecDepth 1000000 in
theorem nr_exp8d (s bd ex xx st : ByteArray) (w : World) (h1 : 0 < ex.size) (h2 : ((ex[0]'h1).toNat : Int) = 43) (hxx : ex.extract 1 ex.size = xx) (h3 : xx.toList.isEmpty = false) (h4 : st.toList.isEmpty = true) (h9 : decide ((9 : Int) < (xx.size : Int)) = true)
    (HCUT : Hid (∀ W, Calls Try.prog 31 #[.string s, .int .u8 69] W fun e w' => e = .returned (.tuple #[.string bd, .string ex, .bool true]) ∧ Below W.heap.size W w'))
    (HSTR : Hid (∀ W, Calls Try.prog 32 #[.string xx] W fun e w' => e = .returned (.string st) ∧ Below W.heap.size W w')) :
    Calls Try.prog 14 #[.string s] w fun e w' => e = .returned (.tuple #[.agg (patI 0 0 0 0 0 0 0 0 ⟨#[]⟩ false 0 false), .int .i64 8]) ∧ Below w.heap.size w w' := by
  have h5 : (((ex[0]'h1).toNat : Int) == 43) = true := beq_iff_eq.2 h2
  have h6 : (1 : Int) ≤ (ex.size : Int) := by omega
  clear h2
  have HA := heap_alloc_new w (.cells ZP 26 (0, 0))
  have HBV := Lib.hid ((Below.refl w.heap.size w).alloc (Nat.le_refl _) (.cells ZP 26 (0, 0)))
  obtain ⟨V, hV⟩ : ∃ V, V = w.alloc (.cells ZP 26 (0, 0)) := ⟨_, rfl⟩
  rw [← hV] at HA HBV
  have HAV := Lib.hid HA
  have hvw := hV.symm
  unfold ZP at hvw
  clear HA hV
  have hgP := HBV.out.size
  go_enter Try.func14, Try.ntmps14
  go_wp2_with (first
    | ((with_reducible refine gate_store (t := 26) (p := 2) rfl ?_); refine store_new_event rfl rfl rfl w.heap.size (patI 0 0 0 0 0 0 0 0 ⟨#[]⟩ false 0 false) _ 26 rfl rfl HA3.out (by kernel_rfl) rfl (patI_one _ _ _ _ _ _ _ _ _ _ _ _) ?_; intro W9 hW9 hput; have HB9 := Lib.hid (hput.below HB3.out (Nat.le_refl _)); have HR9 := Lib.hid hW9; clear hput hW9)
    | (go_at_call 32; (with_reducible refine (HSTR.out _).mono ?_); rintro e W3 ⟨rfl, b3⟩; have HB3 := Lib.hid (below_step (below_set HB2.out hgP) b3); have HA3 := Lib.hid (heap_keeps b3 ((Below.heap_setCell W2 ⟨V.heap.size, 16, none⟩ _ w.heap.size (Nat.ne_of_lt (blk_lt HAV.out))).trans HA2.out)); clear b3)
    | (go_at_call 31; (with_reducible refine (HCUT.out _).mono ?_); rintro e W2 ⟨rfl, b2⟩; have HB2 := Lib.hid (below_step HB1.out b2); have hP2 := heap_keeps b2 HP1.out; have HA2 := Lib.hid (heap_keeps b2 HA1.out); have p14 : W2.cell? ⟨V.heap.size, 14, none⟩ = some (.bool false) := blk_cell hP2 14; have p15 : W2.cell? ⟨V.heap.size, 15, none⟩ = some (.int .i64 0) := blk_cell hP2 15; have p16 : W2.cell? ⟨V.heap.size, 16, none⟩ = some (.bool false) := blk_cell hP2 16; have pfz := blk_frozen hP2; have HP2 := Lib.hid hP2; clear b2 hP2)
    | ((with_reducible refine gate_store (t := 26) (p := 4) rfl ?_); refine store_new_event rfl rfl rfl V.heap.size (patI 0 0 0 0 0 0 0 0 ⟨#[]⟩ false 0 false) _ 26 rfl rfl (heap_alloc_new V _) (by kernel_rfl) rfl (patI_one _ _ _ _ _ _ _ _ _ _ _ _) ?_; intro W1 hW1 hput; have HB1 := Lib.hid (hput.below (HBV.out.alloc HBV.out.size _) HBV.out.size); have HP1 := Lib.hid hW1; have HA1 := Lib.hid (hput.other (blk_alloc HAV.out _) (Nat.ne_of_lt (blk_lt HAV.out))); clear hput hW1))
  refine bodyPost_ret (results_cell_tmp rfl _ _ w.heap.size 26 (patI 0 0 0 0 0 0 0 0 ⟨#[]⟩ false 0 false) (0, 0) _ rfl HR9.out Try.underlying26 rfl (by kernel_rfl)) rfl ?_
  exact ⟨rfl, HB9.out⟩
end Go.Proofs.Ytkgdpgoianimjaa.Print
