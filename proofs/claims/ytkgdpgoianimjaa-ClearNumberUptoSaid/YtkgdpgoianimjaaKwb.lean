/- The reference's Number, cut into pieces: patterns of digits, groups, parts, the exponent; its contract. Frames printed by this session's own program (wip/tools/mk_nrall.py). -/
import Derived.Test.YtkgdpgoianimjaaKwa
namespace Go.Proofs.Ytkgdpgoianimjaa.Print
open Go.RowKit Go.Proofs.YtkgdpgoianimjaaW.PrintWords Go.Proofs.YtkgdpgoianimjaaW.PrintLast Go.Proofs.YtkgdpgoianimjaaW.PrintMore
set_option linter.unusedVariables false
set_option linter.unusedSimpArgs false
variable {v0 v1 v2 v3 v4 v5 v6 v7 v8 v9 v10 v11 v12 v13 v14 v15 v16 v17 v18 v19 v20 v21 v22 v23 v24 v25 v26 v27 v28 v29 v30 v31 v32 v33 v34 v35 v36 v37 v38 v39 v40 v41 v42 v43 v44 v45 v46 v47 v48 v49 v50 v51 v52 v53 v54 v55 v56 v57 v58 v59 v60 v61 v62 v63 v64 v65 v66 v67 v68 v69 v70 v71 v72 v73 v74 v75 v76 v77 v78 v79 v80 v81 v82 v83 v84 v85 v86 v87 v88 v89 v90 v91 v92 v93 v94 v95 v96 v97 v98 v99 v100 v101 v102 v103 v104 v105 v106 v107 v108 v109 v110 v111 v112 v113 v114 v115 v116 v117 v118 v119 v120 v121 v122 v123 v124 v125 v126 v127 v128 v129 v130 v131 v132 v133 v134 v135 v136 v137 v138 v139 v140 v141 v142 v143 v144 v145 v146 v147 v148 v149 v150 v151 v152 v153 v154 v155 v156 v157 v158 v159 v160 v161 v162 v163 v164 v165 v166 v167 v168 v169 v170 v171 v172 v173 v174 v175 v176 v177 v178 v179 v180 v181 v182 v183 v184 v185 v186 v187 v188 v189 v190 v191 v192 v193 v194 v195 v196 v197 v198 v199 v200 v201 v202 v203 v204 v205 v206 v207 v208 v209 v210 v211 v212 v213 v214 v215 v216 v217 v218 v219 v220 v221 v222 v223 v224 v225 v226 v227 v228 v229 v230 v231 v232 v233 v234 v235 v236 v237 v238 v239 v240 v241 v242 v243 v244 v245 v246 v247 v248 v249 v250 v251 v252 v253 v254 v255 v256 v257 v258 v259 v260 v261 v262 v263 v264 v265 v266 v267 v268 v269 v270 v271 v272 v273 v274 v275 v276 v277 v278 v279 v280 v281 v282 v283 v284 v285 v286 v287 v288 v289 v290 v291 v292 v293 v294 v295 v296 v297 v298 v299 v300 v301 v302 v303 v304 v305 v306 v307 v308 v309 v310 v311 v312 v313 v314 v315 v316 v317 v318 v319 v320 : Value}

/- The reference's Number: patterns of digits. -/

theorem pD_set5 (p : N.NP) (c : Nat) : (patN p).setIfInBounds 5 (.int .i64 (c : Int)) = patN { p with minInt := c } := by simp [patN]
theorem pD_set6 (p : N.NP) (c : Nat) : (patN p).setIfInBounds 6 (.int .i64 (c : Int)) = patN { p with maxInt := c } := by simp [patN]
theorem pD_set7 (p : N.NP) (c : Nat) : (patN p).setIfInBounds 7 (.int .i64 (c : Int)) = patN { p with minFrac := c } := by simp [patN]
theorem pD_set8 (p : N.NP) (c : Nat) : (patN p).setIfInBounds 8 (.int .i64 (c : Int)) = patN { p with maxFrac := c } := by simp [patN]
theorem pD_set13 (p : N.NP) (l : List UInt8) : (patN p).setIfInBounds 13 (.string (mkB l)) = patN { p with inc := l } := by simp [patN]
def pD (p : N.NP) (ci cf xf : Nat) : N.NP := { p with minInt := ci, minFrac := cf, maxFrac := xf }
def pDi (p : N.NP) (ci cf xf : Nat) (ic : List UInt8) : N.NP := { pD p ci cf xf with inc := ic }
def pDx (p : N.NP) (ci cf xf : Nat) (ic : List UInt8) (n : Nat) : N.NP := { pDi p ci cf xf ic with maxInt := n }
def dg35 (l : List UInt8) : ByteArray := mkB (l.filter (· != 35))
theorem dg35_yes (al : ByteArray) (i : Nat) (h : i < al.size) (hb : ((al[i]'h).toNat : Int) ≠ 35) : dg35 ((N.L al).take (i + 1)) = dg35 ((N.L al).take i) ++ al.extract i (i + 1) := by
  have hb2 : (al[i]'h != 35) = true := bne_iff_ne.2 (fun e => hb (by rw [e]; rfl))
  unfold dg35
  have e1 : (N.L al)[i]? = some (al[i]'h) := List.getElem?_eq_getElem (by rw [N.L_len]; exact h)
  rw [List.take_add_one, e1]
  have e2 : al.extract i (i + 1) = mkB [al[i]'h] := by
    have := congrArg mkB (L_ext al i (i + 1))
    rw [mkB_L] at this
    rw [this]
    obtain ⟨b, hb3, hd⟩ := drop_get (N.L al) i (by rw [N.L_len]; exact h)
    rw [e1] at hb3
    rw [Nat.add_sub_cancel_left, hd, Option.some.inj hb3]
    rfl
  rw [e2, Option.toList_some, List.filter_append]
  have e3 : [al[i]'h].filter (· != 35) = [al[i]'h] := by rw [List.filter_cons, if_pos hb2]; rfl
  rw [e3]
  exact mkB_app _ _
theorem dg35_no (al : ByteArray) (i : Nat) (h : i < al.size) (hb : ((al[i]'h).toNat : Int) = 35) : dg35 ((N.L al).take (i + 1)) = dg35 ((N.L al).take i) := by
  have hb2 : al[i]'h = 35 := UInt8.toNat_inj.1 (by have e35 : (35 : UInt8).toNat = 35 := rfl; omega)
  unfold dg35
  have e1 : (N.L al)[i]? = some (al[i]'h) := List.getElem?_eq_getElem (by rw [N.L_len]; exact h)
  rw [List.take_add_one, e1, Option.toList_some, List.filter_append, hb2]
  have e3 : [(35 : UInt8)].filter (· != 35) = [] := rfl
  rw [e3, List.append_nil]
theorem cut_one (s : ByteArray) (i : Nat) (h : i < s.size) : ∀ W, (Instr.slice 9 (.string s) (some (.int .i64 (i : Int))) (some (.int .i64 ((i : Int) + 1))) none).run Try.prog W = .ok (.string (s.extract i (i + 1))) W := fun W => by
  have := run_slice_string (P := Try.prog) W 9 s .i64 .i64 (i : Int) ((i : Int) + 1) Try.underlying9 (by omega) (by omega) (by omega)
  rwa [show ((i : Int) + 1).toNat = i + 1 by omega, Int.toNat_natCast] at this
theorem dg35_len (l : List UInt8) (i : Nat) : (dg35 (l.take i)).size ≤ i := by
  unfold dg35
  rw [mkB_size]
  exact Nat.le_trans (List.length_filter_le _ _) (List.length_take_le _ _)
set_option maxHeartbeats 8000000 in
set_option maxRecDepth 1000000 in
theorem nr16_d4a (w W : World) (rb pb k sc : Nat) (sa : Option Addr) (sci pt : Bool) (pl fr al : ByteArray) (p : N.NP) (r : N.NP × Int) (ca : Int) (he : al.toList.isEmpty = false) (hca : decide (0 < ca) = false) (hst : Nst w W rb pb p) (HCA : Hid (CntAt al 64 ca)) (HRI : Hid (RowsAt pl 35 48 48 false)) (hr : r = (N.np0, 4)) :
    Code.wp Try.prog (Nr 16) (bodyPost Try.prog Try.f14 (NPost r w)) ⟨#[v0,v1, .pointer (some ⟨rb, 0, none⟩),v3, .pointer (some ⟨pb, 0, none⟩),v5,v6, .bool sci,v8,v9,v10, .string fr, .bool pt, .slice sa k sc, .string pl,v15,v16,v17, .string al,v19,v20,v21,v22,v23,v24,v25,v26,v27,v28,v29,v30,v31,v32,v33,v34,v35,v36,v37,v38,v39,v40,v41,v42,v43,v44,v45,v46,v47,v48,v49,v50,v51,v52,v53,v54,v55,v56,v57,v58,v59,v60,v61,v62,v63,v64,v65,v66,v67,v68,v69,v70,v71,v72,v73,v74,v75,v76,v77,v78,v79,v80,v81,v82,v83,v84,v85,v86,v87,v88,v89,v90,v91,v92,v93,v94,v95,v96,v97,v98,v99,v100,v101,v102,v103,v104,v105,v106,v107,v108,v109,v110,v111,v112,v113,v114,v115,v116,v117,v118,v119,v120,v121,v122,v123,v124,v125,v126,v127,v128,v129,v130,v131,v132,v133,v134,v135,v136,v137,v138,v139,v140,v141,v142,v143,v144,v145,v146,v147,v148,v149,v150,v151,v152,v153,v154,v155,v156,v157,v158,v159,v160,v161,v162,v163,v164,v165,v166,v167,v168,v169,v170,v171,v172,v173,v174,v175,v176,v177,v178,v179,v180,v181,v182,v183,v184,v185,v186,v187,v188,v189,v190,v191,v192,v193,v194,v195,v196,v197,v198,v199,v200,v201,v202,v203,v204,v205,v206,v207,v208,v209,v210,v211,v212,v213,v214,v215,v216,v217,v218,v219,v220,v221,v222,v223,v224,v225,v226,v227,v228,v229,v230,v231,v232,v233,v234,v235,v236,v237,v238,v239,v240,v241,v242,v243,v244,v245,v246,v247,v248,v249,v250,v251,v252,v253,v254,v255,v256,v257,v258,v259,v260,v261,v262,v263,v264,v265,v266,v267,v268,v269,v270,v271,v272,v273,v274,v275,v276,v277,v278,v279,v280,v281,v282,v283,v284,v285,v286,v287,v288,v289,v290,v291,v292,v293,v294,v295,v296,v297,v298,v299,v300,v301,v302,v303,v304,v305,v306,v307,v308,v309,v310,v311,v312,v313,v314,v315,v316,v317,v318,v319,v320], []⟩ W := by
  subst hr
  have HS0 := Lib.hid hst
  clear hst
  rw [show Nr 16 = .seq (stmtOf 16 nrBody) (.seq (stmtOf 17 nrBody) (Nr 18)) from by kernel_rfl]
  have hz16 : stmtOf 16 nrBody = stmtOf 16 nrBody := rfl
  conv at hz16 => rhs; whnf
  rw [hz16]; clear hz16
  have hz17 : stmtOf 17 nrBody = stmtOf 17 nrBody := rfl
  conv at hz17 => rhs; whnf
  rw [hz17]; clear hz17
  go_wp2_with (first
    | (go_at_call 33; (with_reducible refine (HCA.out _).mono ?_); rintro e W1 ⟨rfl, b1⟩; have HS1 := Lib.hid (HS0.out.step b1); clear b1)
    | (go_at_call 34; (with_reducible refine (HRI.out _).mono ?_); rintro e W2 ⟨rfl, b2⟩; have HST := Lib.hid (HS1.out.step b2); clear b2)
    | ((with_reducible refine gate_store (t := 26) (p := 2) rfl ?_); refine store_new_event rfl rfl rfl rb (patI 0 0 0 0 0 0 0 0 ⟨#[]⟩ false 0 false) _ 26 rfl rfl HST.out.res (by kernel_rfl) rfl (patI_one _ _ _ _ _ _ _ _ _ _ _ _) ?_; intro W9 hW9 hput; have HB9 := Lib.hid (hput.below HST.out.below HST.out.rlo); have HR9 := Lib.hid hW9; clear hput hW9))
  refine bodyPost_ret (results_cell_tmp rfl _ _ rb 26 (patI 0 0 0 0 0 0 0 0 ⟨#[]⟩ false 0 false) (0, 0) _ rfl HR9.out Try.underlying26 rfl (by kernel_rfl)) rfl ?_
  exact ⟨rfl, HB9.out⟩
set_option maxHeartbeats 8000000 in
set_option maxRecDepth 1000000 in
theorem nr16_d4b (w W : World) (rb pb k sc : Nat) (sa : Option Addr) (sci pt : Bool) (pl fr al : ByteArray) (p : N.NP) (r : N.NP × Int) (ca : Int) (he : al.toList.isEmpty = false) (hca : decide (0 < ca) = false) (hst : Nst w W rb pb p) (HCA : Hid (CntAt al 64 ca)) (HRI : Hid (RowsAt pl 35 48 48 true)) (HRF : Hid (RowsAt fr 48 35 35 false)) (hr : r = (N.np0, 4)) :
    Code.wp Try.prog (Nr 16) (bodyPost Try.prog Try.f14 (NPost r w)) ⟨#[v0,v1, .pointer (some ⟨rb, 0, none⟩),v3, .pointer (some ⟨pb, 0, none⟩),v5,v6, .bool sci,v8,v9,v10, .string fr, .bool pt, .slice sa k sc, .string pl,v15,v16,v17, .string al,v19,v20,v21,v22,v23,v24,v25,v26,v27,v28,v29,v30,v31,v32,v33,v34,v35,v36,v37,v38,v39,v40,v41,v42,v43,v44,v45,v46,v47,v48,v49,v50,v51,v52,v53,v54,v55,v56,v57,v58,v59,v60,v61,v62,v63,v64,v65,v66,v67,v68,v69,v70,v71,v72,v73,v74,v75,v76,v77,v78,v79,v80,v81,v82,v83,v84,v85,v86,v87,v88,v89,v90,v91,v92,v93,v94,v95,v96,v97,v98,v99,v100,v101,v102,v103,v104,v105,v106,v107,v108,v109,v110,v111,v112,v113,v114,v115,v116,v117,v118,v119,v120,v121,v122,v123,v124,v125,v126,v127,v128,v129,v130,v131,v132,v133,v134,v135,v136,v137,v138,v139,v140,v141,v142,v143,v144,v145,v146,v147,v148,v149,v150,v151,v152,v153,v154,v155,v156,v157,v158,v159,v160,v161,v162,v163,v164,v165,v166,v167,v168,v169,v170,v171,v172,v173,v174,v175,v176,v177,v178,v179,v180,v181,v182,v183,v184,v185,v186,v187,v188,v189,v190,v191,v192,v193,v194,v195,v196,v197,v198,v199,v200,v201,v202,v203,v204,v205,v206,v207,v208,v209,v210,v211,v212,v213,v214,v215,v216,v217,v218,v219,v220,v221,v222,v223,v224,v225,v226,v227,v228,v229,v230,v231,v232,v233,v234,v235,v236,v237,v238,v239,v240,v241,v242,v243,v244,v245,v246,v247,v248,v249,v250,v251,v252,v253,v254,v255,v256,v257,v258,v259,v260,v261,v262,v263,v264,v265,v266,v267,v268,v269,v270,v271,v272,v273,v274,v275,v276,v277,v278,v279,v280,v281,v282,v283,v284,v285,v286,v287,v288,v289,v290,v291,v292,v293,v294,v295,v296,v297,v298,v299,v300,v301,v302,v303,v304,v305,v306,v307,v308,v309,v310,v311,v312,v313,v314,v315,v316,v317,v318,v319,v320], []⟩ W := by
  subst hr
  have HS0 := Lib.hid hst
  clear hst
  rw [show Nr 16 = .seq (stmtOf 16 nrBody) (.seq (stmtOf 17 nrBody) (Nr 18)) from by kernel_rfl]
  have hz16 : stmtOf 16 nrBody = stmtOf 16 nrBody := rfl
  conv at hz16 => rhs; whnf
  rw [hz16]; clear hz16
  have hz17 : stmtOf 17 nrBody = stmtOf 17 nrBody := rfl
  conv at hz17 => rhs; whnf
  rw [hz17]; clear hz17
  go_wp2_with (first
    | (go_at_call 33; (with_reducible refine (HCA.out _).mono ?_); rintro e W1 ⟨rfl, b1⟩; have HS1 := Lib.hid (HS0.out.step b1); clear b1)
    | (go_at_call 34; (with_reducible refine (HRI.out _).mono ?_); rintro e W2 ⟨rfl, b2⟩; have HS2 := Lib.hid (HS1.out.step b2); clear b2)
    | (go_at_call 34; (with_reducible refine (HRF.out _).mono ?_); rintro e W3 ⟨rfl, b3⟩; have HST := Lib.hid (HS2.out.step b3); clear b3)
    | ((with_reducible refine gate_store (t := 26) (p := 2) rfl ?_); refine store_new_event rfl rfl rfl rb (patI 0 0 0 0 0 0 0 0 ⟨#[]⟩ false 0 false) _ 26 rfl rfl HST.out.res (by kernel_rfl) rfl (patI_one _ _ _ _ _ _ _ _ _ _ _ _) ?_; intro W9 hW9 hput; have HB9 := Lib.hid (hput.below HST.out.below HST.out.rlo); have HR9 := Lib.hid hW9; clear hput hW9))
  refine bodyPost_ret (results_cell_tmp rfl _ _ rb 26 (patI 0 0 0 0 0 0 0 0 ⟨#[]⟩ false 0 false) (0, 0) _ rfl HR9.out Try.underlying26 rfl (by kernel_rfl)) rfl ?_
  exact ⟨rfl, HB9.out⟩
set_option maxHeartbeats 8000000 in
set_option maxRecDepth 1000000 in
theorem nr16_d6a (w W : World) (rb pb k sc : Nat) (sa : Option Addr) (sci pt : Bool) (pl fr al : ByteArray) (p : N.NP) (r : N.NP × Int) (ca : Int) (he : al.toList.isEmpty = false) (hca : decide (0 < ca) = false) (hst : Nst w W rb pb p) (HCA : Hid (CntAt al 64 ca)) (ci cf xf n : Nat) (hn : pl.size = n) (hxf : fr.size = xf) (na : Nat) (hna : al.size = na) (hna9 : na ≤ 1000000000) (ic : List UInt8) (HIC : Hid (ic = N.incR (N.L al))) (HRI : Hid (RowsAt pl 35 48 48 true)) (HRF : Hid (RowsAt fr 48 35 35 true)) (HCI : Hid (CntAt pl 48 ci)) (HCF : Hid (CntAt fr 48 cf)) (h9 : ic.length ≤ 1000000000) (hms : p.minSig = 0) (hie : (mkB ic).toList.isEmpty = false) (hmx : decide (cf < xf) = true) (hr : r = (N.np0, 6)) :
    Code.wp Try.prog (Nr 16) (bodyPost Try.prog Try.f14 (NPost r w)) ⟨#[v0,v1, .pointer (some ⟨rb, 0, none⟩),v3, .pointer (some ⟨pb, 0, none⟩),v5,v6, .bool sci,v8,v9,v10, .string fr, .bool pt, .slice sa k sc, .string pl,v15,v16,v17, .string al,v19,v20,v21,v22,v23,v24,v25,v26,v27,v28,v29,v30,v31,v32,v33,v34,v35,v36,v37,v38,v39,v40,v41,v42,v43,v44,v45,v46,v47,v48,v49,v50,v51,v52,v53,v54,v55,v56,v57,v58,v59,v60,v61,v62,v63,v64,v65,v66,v67,v68,v69,v70,v71,v72,v73,v74,v75,v76,v77,v78,v79,v80,v81,v82,v83,v84,v85,v86,v87,v88,v89,v90,v91,v92,v93,v94,v95,v96,v97,v98,v99,v100,v101,v102,v103,v104,v105,v106,v107,v108,v109,v110,v111,v112,v113,v114,v115,v116,v117,v118,v119,v120,v121,v122,v123,v124,v125,v126,v127,v128,v129,v130,v131,v132,v133,v134,v135,v136,v137,v138,v139,v140,v141,v142,v143,v144,v145,v146,v147,v148,v149,v150,v151,v152,v153,v154,v155,v156,v157,v158,v159,v160,v161,v162,v163,v164,v165,v166,v167,v168,v169,v170,v171,v172,v173,v174,v175,v176,v177,v178,v179,v180,v181,v182,v183,v184,v185,v186,v187,v188,v189,v190,v191,v192,v193,v194,v195,v196,v197,v198,v199,v200,v201,v202,v203,v204,v205,v206,v207,v208,v209,v210,v211,v212,v213,v214,v215,v216,v217,v218,v219,v220,v221,v222,v223,v224,v225,v226,v227,v228,v229,v230,v231,v232,v233,v234,v235,v236,v237,v238,v239,v240,v241,v242,v243,v244,v245,v246,v247,v248,v249,v250,v251,v252,v253,v254,v255,v256,v257,v258,v259,v260,v261,v262,v263,v264,v265,v266,v267,v268,v269,v270,v271,v272,v273,v274,v275,v276,v277,v278,v279,v280,v281,v282,v283,v284,v285,v286,v287,v288,v289,v290,v291,v292,v293,v294,v295,v296,v297,v298,v299,v300,v301,v302,v303,v304,v305,v306,v307,v308,v309,v310,v311,v312,v313,v314,v315,v316,v317,v318,v319,v320], []⟩ W := by
  have HMS := Lib.hid hms
  clear hms
  subst hr
  have HS0 := Lib.hid hst
  clear hst
  rw [show Nr 16 = .seq (stmtOf 16 nrBody) (.seq (stmtOf 17 nrBody) (Nr 18)) from by kernel_rfl]
  have hz16 : stmtOf 16 nrBody = stmtOf 16 nrBody := rfl
  conv at hz16 => rhs; whnf
  rw [hz16]; clear hz16
  have hz17 : stmtOf 17 nrBody = stmtOf 17 nrBody := rfl
  conv at hz17 => rhs; whnf
  rw [hz17]; clear hz17
  go_wp2_with (first
    | (go_at_call 33; (with_reducible refine (HCA.out _).mono ?_); rintro e W1 ⟨rfl, b1⟩; have HS1 := Lib.hid (HS0.out.step b1); clear b1)
    | (go_at_call 34; (with_reducible refine (HRI.out _).mono ?_); rintro e W2 ⟨rfl, b2⟩; have HS2 := Lib.hid (HS1.out.step b2); clear b2)
    | (go_at_call 34; (with_reducible refine (HRF.out _).mono ?_); rintro e W3 ⟨rfl, b3⟩; have HS3 := Lib.hid (HS2.out.step b3); clear b3)
    | (go_at_call 33; (with_reducible refine (HCI.out _).mono ?_); rintro e W4 ⟨rfl, b4⟩; have HS4 := Lib.hid (HS3.out.step b4); clear b4)
    | (go_at_call 33; (with_reducible refine (HCF.out _).mono ?_); rintro e W5 ⟨rfl, b5⟩; have hs5 := HS4.out.step b5; have p5 : W5.cell? ⟨pb, 5, none⟩ = some (.int .i64 p.minInt) := hs5.cell 5; have p7 : W5.cell? ⟨pb, 7, none⟩ = some (.int .i64 p.minFrac) := hs5.cell 7; have p8 : W5.cell? ⟨pb, 8, none⟩ = some (.int .i64 p.maxFrac) := hs5.cell 8; have pfz := hs5.frozen; have HS5 := Lib.hid hs5; clear b5 hs5))
  obtain ⟨W7, hW7⟩ : ∃ W7, W7 = ((W5.setCell ⟨pb, 5, none⟩ (.int .i64 (ci : Int))).setCell ⟨pb, 7, none⟩ (.int .i64 (cf : Int))).setCell ⟨pb, 8, none⟩ (.int .i64 (xf : Int)) := ⟨_, rfl⟩
  have hs7 : Nst w W7 rb pb (pD p ci cf xf) := by rw [hW7]; exact ((HS5.out.set 5 _ (pD_set5 p ci)).set 7 _ (pD_set7 _ cf)).set 8 _ (pD_set8 _ xf)
  have HS7 := Lib.hid hs7
  rw [← hW7]
  clear hW7 hs7 p5 p7 p8 pfz HS5
  go_loopw [19, 20] (fun v19 v20 wr => ∃ (i : Nat) (dg : ByteArray), v20 = .int .i64 (i : Int) ∧ v19 = .string dg ∧ i ≤ na ∧ Hid (dg = dg35 ((N.L al).take i)) ∧ wr = W7) (fun _ v20 _ => na - (RowKit.intOf v20).toNat)
  case atStart => exact ⟨0, ⟨#[]⟩, rfl, rfl, by omega, Lib.hid rfl, rfl⟩
  case round =>
    obtain ⟨i, dg, rfl, rfl, hi, HDG, hwr⟩ := hrel
    subst hwr
    by_cases hia : i < na
    · have hib : i < al.size := by omega
      have hdl : dg.size ≤ i := by rw [HDG.out]; exact dg35_len _ _
      have hx1 : (al.extract i (i + 1)).size = 1 := by rw [ByteArray.size_extract]; omega
      by_cases hb : ((al[i]'hib).toNat : Int) = 35
      · have hb2 : (((al[i]'hib).toNat : Int) == 35) = true := beq_iff_eq.2 hb
        have HB := Lib.hid hb
        clear hb
        go_wp2
        go_roundw
        case rel => exact ⟨i + 1, dg, by go_num, rfl, by omega, Lib.hid (by rw [dg35_no al i hib HB.out]; exact HDG.out), by trivial⟩
        case measure => simp [RowKit.intOf]; omega
      · have hb2 : (((al[i]'hib).toNat : Int) == 35) = false := beq_eq_false_iff_ne.2 hb
        have HB := Lib.hid hb
        have hsl := cut_one al i hib
        clear hb
        go_wp2
        go_roundw
        case rel => exact ⟨i + 1, dg ++ al.extract i (i + 1), by go_num, rfl, by omega, Lib.hid (by rw [dg35_yes al i hib HB.out, ← HDG.out]), by trivial⟩
        case measure => simp [RowKit.intOf]; omega
    · obtain rfl : i = na := by omega
      have hdg : dg = dg35 (N.L al) := by
        rw [HDG.out, List.take_of_length_le (by rw [N.L_len]; omega)]
      have hstr : StripAt dg (mkB ic) := by
        have := strip_at dg
        have e : N.L dg = (N.L al).filter (· != 35) := by rw [hdg]; exact L_mkB _
        rw [e] at this
        rw [HIC.out]
        exact this
      have HSTR := Lib.hid hstr
      clear hdg hstr HDG
      obtain ⟨st, hst⟩ : ∃ st, st = mkB ic := ⟨_, rfl⟩
      rw [← hst] at HSTR
      have hse : st.toList.isEmpty = false := by rw [hst]; exact hie
      have HST0 := Lib.hid hst
      clear hst
      have e7 : (((W8 : World) → Nst w W8 rb pb (pD p ci cf xf) → W8.cell? ⟨pb, 13, none⟩ = some (.string (mkB p.inc)) ∧ W8.cell? ⟨pb, 7, none⟩ = some (.int .i64 (cf : Int)) ∧ W8.cell? ⟨pb, 8, none⟩ = some (.int .i64 (xf : Int)) ∧ W8.cell? ⟨pb, 6, none⟩ = some (.int .i64 (p.maxInt : Int)))) := fun W8 h => ⟨h.cell 13, h.cell 7, h.cell 8, h.cell 6⟩
      have HE7 := Lib.hid e7
      clear e7
      go_wp2_with (first
        | (go_at_call 32; (with_reducible refine (HSTR.out _).mono ?_); rintro e W8 ⟨rfl, b8⟩; have hs8 := HS7.out.step b8; obtain ⟨q13, q7, q8, q6⟩ := HE7.out _ hs8; have pfz := hs8.frozen; have hs13 : Nst w (W8.setCell ⟨pb, 13, none⟩ (.string st)) rb pb (pDi p ci cf xf ic) := (by rw [HST0.out]; exact hs8.set 13 _ (pD_set13 _ ic)); have HS13 := Lib.hid hs13; clear b8 hs8 hs13)
        | ((with_reducible refine gate_store (t := 26) (p := 2) rfl ?_); refine store_new_event rfl rfl rfl rb (patI 0 0 0 0 0 0 0 0 ⟨#[]⟩ false 0 false) _ 26 rfl rfl HS13.out.res (by kernel_rfl) rfl (patI_one _ _ _ _ _ _ _ _ _ _ _ _) ?_; intro W9 hW9 hput; have HB9 := Lib.hid (hput.below HS13.out.below HS13.out.rlo); have HR9 := Lib.hid hW9; clear hput hW9))
      refine bodyPost_ret (results_cell_tmp rfl _ _ rb 26 (patI 0 0 0 0 0 0 0 0 ⟨#[]⟩ false 0 false) (0, 0) _ rfl HR9.out Try.underlying26 rfl (by kernel_rfl)) rfl ?_
      exact ⟨rfl, HB9.out⟩
set_option maxHeartbeats 8000000 in
set_option maxRecDepth 1000000 in
theorem nr16_d6b (w W : World) (rb pb k sc : Nat) (sa : Option Addr) (sci pt : Bool) (pl fr al : ByteArray) (p : N.NP) (r : N.NP × Int) (ca : Int) (he : al.toList.isEmpty = false) (hca : decide (0 < ca) = false) (hst : Nst w W rb pb p) (HCA : Hid (CntAt al 64 ca)) (ci cf xf n : Nat) (hn : pl.size = n) (hxf : fr.size = xf) (na : Nat) (hna : al.size = na) (hna9 : na ≤ 1000000000) (ic : List UInt8) (HIC : Hid (ic = N.incR (N.L al))) (HRI : Hid (RowsAt pl 35 48 48 true)) (HRF : Hid (RowsAt fr 48 35 35 true)) (HCI : Hid (CntAt pl 48 ci)) (HCF : Hid (CntAt fr 48 cf)) (h9 : ic.length ≤ 1000000000) (hms : p.minSig = 0) (hie : (mkB ic).toList.isEmpty = false) (hmx : decide (cf < xf) = false) (hsc : sci = true) (hr : r = (N.np0, 6)) :
    Code.wp Try.prog (Nr 16) (bodyPost Try.prog Try.f14 (NPost r w)) ⟨#[v0,v1, .pointer (some ⟨rb, 0, none⟩),v3, .pointer (some ⟨pb, 0, none⟩),v5,v6, .bool sci,v8,v9,v10, .string fr, .bool pt, .slice sa k sc, .string pl,v15,v16,v17, .string al,v19,v20,v21,v22,v23,v24,v25,v26,v27,v28,v29,v30,v31,v32,v33,v34,v35,v36,v37,v38,v39,v40,v41,v42,v43,v44,v45,v46,v47,v48,v49,v50,v51,v52,v53,v54,v55,v56,v57,v58,v59,v60,v61,v62,v63,v64,v65,v66,v67,v68,v69,v70,v71,v72,v73,v74,v75,v76,v77,v78,v79,v80,v81,v82,v83,v84,v85,v86,v87,v88,v89,v90,v91,v92,v93,v94,v95,v96,v97,v98,v99,v100,v101,v102,v103,v104,v105,v106,v107,v108,v109,v110,v111,v112,v113,v114,v115,v116,v117,v118,v119,v120,v121,v122,v123,v124,v125,v126,v127,v128,v129,v130,v131,v132,v133,v134,v135,v136,v137,v138,v139,v140,v141,v142,v143,v144,v145,v146,v147,v148,v149,v150,v151,v152,v153,v154,v155,v156,v157,v158,v159,v160,v161,v162,v163,v164,v165,v166,v167,v168,v169,v170,v171,v172,v173,v174,v175,v176,v177,v178,v179,v180,v181,v182,v183,v184,v185,v186,v187,v188,v189,v190,v191,v192,v193,v194,v195,v196,v197,v198,v199,v200,v201,v202,v203,v204,v205,v206,v207,v208,v209,v210,v211,v212,v213,v214,v215,v216,v217,v218,v219,v220,v221,v222,v223,v224,v225,v226,v227,v228,v229,v230,v231,v232,v233,v234,v235,v236,v237,v238,v239,v240,v241,v242,v243,v244,v245,v246,v247,v248,v249,v250,v251,v252,v253,v254,v255,v256,v257,v258,v259,v260,v261,v262,v263,v264,v265,v266,v267,v268,v269,v270,v271,v272,v273,v274,v275,v276,v277,v278,v279,v280,v281,v282,v283,v284,v285,v286,v287,v288,v289,v290,v291,v292,v293,v294,v295,v296,v297,v298,v299,v300,v301,v302,v303,v304,v305,v306,v307,v308,v309,v310,v311,v312,v313,v314,v315,v316,v317,v318,v319,v320], []⟩ W := by
  have HMS := Lib.hid hms
  clear hms
  subst hr hsc
  have HS0 := Lib.hid hst
  clear hst
  rw [show Nr 16 = .seq (stmtOf 16 nrBody) (.seq (stmtOf 17 nrBody) (Nr 18)) from by kernel_rfl]
  have hz16 : stmtOf 16 nrBody = stmtOf 16 nrBody := rfl
  conv at hz16 => rhs; whnf
  rw [hz16]; clear hz16
  have hz17 : stmtOf 17 nrBody = stmtOf 17 nrBody := rfl
  conv at hz17 => rhs; whnf
  rw [hz17]; clear hz17
  go_wp2_with (first
    | (go_at_call 33; (with_reducible refine (HCA.out _).mono ?_); rintro e W1 ⟨rfl, b1⟩; have HS1 := Lib.hid (HS0.out.step b1); clear b1)
    | (go_at_call 34; (with_reducible refine (HRI.out _).mono ?_); rintro e W2 ⟨rfl, b2⟩; have HS2 := Lib.hid (HS1.out.step b2); clear b2)
    | (go_at_call 34; (with_reducible refine (HRF.out _).mono ?_); rintro e W3 ⟨rfl, b3⟩; have HS3 := Lib.hid (HS2.out.step b3); clear b3)
    | (go_at_call 33; (with_reducible refine (HCI.out _).mono ?_); rintro e W4 ⟨rfl, b4⟩; have HS4 := Lib.hid (HS3.out.step b4); clear b4)
    | (go_at_call 33; (with_reducible refine (HCF.out _).mono ?_); rintro e W5 ⟨rfl, b5⟩; have hs5 := HS4.out.step b5; have p5 : W5.cell? ⟨pb, 5, none⟩ = some (.int .i64 p.minInt) := hs5.cell 5; have p7 : W5.cell? ⟨pb, 7, none⟩ = some (.int .i64 p.minFrac) := hs5.cell 7; have p8 : W5.cell? ⟨pb, 8, none⟩ = some (.int .i64 p.maxFrac) := hs5.cell 8; have pfz := hs5.frozen; have HS5 := Lib.hid hs5; clear b5 hs5))
  obtain ⟨W7, hW7⟩ : ∃ W7, W7 = ((W5.setCell ⟨pb, 5, none⟩ (.int .i64 (ci : Int))).setCell ⟨pb, 7, none⟩ (.int .i64 (cf : Int))).setCell ⟨pb, 8, none⟩ (.int .i64 (xf : Int)) := ⟨_, rfl⟩
  have hs7 : Nst w W7 rb pb (pD p ci cf xf) := by rw [hW7]; exact ((HS5.out.set 5 _ (pD_set5 p ci)).set 7 _ (pD_set7 _ cf)).set 8 _ (pD_set8 _ xf)
  have HS7 := Lib.hid hs7
  rw [← hW7]
  clear hW7 hs7 p5 p7 p8 pfz HS5
  go_loopw [19, 20] (fun v19 v20 wr => ∃ (i : Nat) (dg : ByteArray), v20 = .int .i64 (i : Int) ∧ v19 = .string dg ∧ i ≤ na ∧ Hid (dg = dg35 ((N.L al).take i)) ∧ wr = W7) (fun _ v20 _ => na - (RowKit.intOf v20).toNat)
  case atStart => exact ⟨0, ⟨#[]⟩, rfl, rfl, by omega, Lib.hid rfl, rfl⟩
  case round =>
    obtain ⟨i, dg, rfl, rfl, hi, HDG, hwr⟩ := hrel
    subst hwr
    by_cases hia : i < na
    · have hib : i < al.size := by omega
      have hdl : dg.size ≤ i := by rw [HDG.out]; exact dg35_len _ _
      have hx1 : (al.extract i (i + 1)).size = 1 := by rw [ByteArray.size_extract]; omega
      by_cases hb : ((al[i]'hib).toNat : Int) = 35
      · have hb2 : (((al[i]'hib).toNat : Int) == 35) = true := beq_iff_eq.2 hb
        have HB := Lib.hid hb
        clear hb
        go_wp2
        go_roundw
        case rel => exact ⟨i + 1, dg, by go_num, rfl, by omega, Lib.hid (by rw [dg35_no al i hib HB.out]; exact HDG.out), by trivial⟩
        case measure => simp [RowKit.intOf]; omega
      · have hb2 : (((al[i]'hib).toNat : Int) == 35) = false := beq_eq_false_iff_ne.2 hb
        have HB := Lib.hid hb
        have hsl := cut_one al i hib
        clear hb
        go_wp2
        go_roundw
        case rel => exact ⟨i + 1, dg ++ al.extract i (i + 1), by go_num, rfl, by omega, Lib.hid (by rw [dg35_yes al i hib HB.out, ← HDG.out]), by trivial⟩
        case measure => simp [RowKit.intOf]; omega
    · obtain rfl : i = na := by omega
      have hdg : dg = dg35 (N.L al) := by
        rw [HDG.out, List.take_of_length_le (by rw [N.L_len]; omega)]
      have hstr : StripAt dg (mkB ic) := by
        have := strip_at dg
        have e : N.L dg = (N.L al).filter (· != 35) := by rw [hdg]; exact L_mkB _
        rw [e] at this
        rw [HIC.out]
        exact this
      have HSTR := Lib.hid hstr
      clear hdg hstr HDG
      obtain ⟨st, hst⟩ : ∃ st, st = mkB ic := ⟨_, rfl⟩
      rw [← hst] at HSTR
      have hse : st.toList.isEmpty = false := by rw [hst]; exact hie
      have HST0 := Lib.hid hst
      clear hst
      have e7 : (((W8 : World) → Nst w W8 rb pb (pD p ci cf xf) → W8.cell? ⟨pb, 13, none⟩ = some (.string (mkB p.inc)) ∧ W8.cell? ⟨pb, 7, none⟩ = some (.int .i64 (cf : Int)) ∧ W8.cell? ⟨pb, 8, none⟩ = some (.int .i64 (xf : Int)) ∧ W8.cell? ⟨pb, 6, none⟩ = some (.int .i64 (p.maxInt : Int)))) := fun W8 h => ⟨h.cell 13, h.cell 7, h.cell 8, h.cell 6⟩
      have HE7 := Lib.hid e7
      clear e7
      go_wp2_with (first
        | (go_at_call 32; (with_reducible refine (HSTR.out _).mono ?_); rintro e W8 ⟨rfl, b8⟩; have hs8 := HS7.out.step b8; obtain ⟨q13, q7, q8, q6⟩ := HE7.out _ hs8; have pfz := hs8.frozen; have hs13 : Nst w (W8.setCell ⟨pb, 13, none⟩ (.string st)) rb pb (pDi p ci cf xf ic) := (by rw [HST0.out]; exact hs8.set 13 _ (pD_set13 _ ic)); have HS13 := Lib.hid hs13; clear b8 hs8 hs13)
        | ((with_reducible refine gate_store (t := 26) (p := 2) rfl ?_); refine store_new_event rfl rfl rfl rb (patI 0 0 0 0 0 0 0 0 ⟨#[]⟩ false 0 false) _ 26 rfl rfl HS13.out.res (by kernel_rfl) rfl (patI_one _ _ _ _ _ _ _ _ _ _ _ _) ?_; intro W9 hW9 hput; have HB9 := Lib.hid (hput.below HS13.out.below HS13.out.rlo); have HR9 := Lib.hid hW9; clear hput hW9))
      refine bodyPost_ret (results_cell_tmp rfl _ _ rb 26 (patI 0 0 0 0 0 0 0 0 ⟨#[]⟩ false 0 false) (0, 0) _ rfl HR9.out Try.underlying26 rfl (by kernel_rfl)) rfl ?_
      exact ⟨rfl, HB9.out⟩
set_option maxHeartbeats 8000000 in
set_option maxRecDepth 1000000 in
theorem nr16_da (w W : World) (rb pb k sc : Nat) (sa : Option Addr) (sci pt : Bool) (pl fr al : ByteArray) (p : N.NP) (r : N.NP × Int) (ca : Int) (he : al.toList.isEmpty = false) (hca : decide (0 < ca) = false) (hst : Nst w W rb pb p) (HCA : Hid (CntAt al 64 ca)) (ci cf xf n : Nat) (hn : pl.size = n) (hxf : fr.size = xf) (na : Nat) (hna : al.size = na) (hna9 : na ≤ 1000000000) (ic : List UInt8) (HIC : Hid (ic = N.incR (N.L al))) (HRI : Hid (RowsAt pl 35 48 48 true)) (HRF : Hid (RowsAt fr 48 35 35 true)) (HCI : Hid (CntAt pl 48 ci)) (HCF : Hid (CntAt fr 48 cf)) (h9 : ic.length ≤ 1000000000) (hms : p.minSig = 0) (hie : (mkB ic).toList.isEmpty = true) (hsc : sci = true) (hr : r = N.g18 (pDx p ci cf xf ic n) true k (N.L pl)) :
    Code.wp Try.prog (Nr 16) (bodyPost Try.prog Try.f14 (NPost r w)) ⟨#[v0,v1, .pointer (some ⟨rb, 0, none⟩),v3, .pointer (some ⟨pb, 0, none⟩),v5,v6, .bool sci,v8,v9,v10, .string fr, .bool pt, .slice sa k sc, .string pl,v15,v16,v17, .string al,v19,v20,v21,v22,v23,v24,v25,v26,v27,v28,v29,v30,v31,v32,v33,v34,v35,v36,v37,v38,v39,v40,v41,v42,v43,v44,v45,v46,v47,v48,v49,v50,v51,v52,v53,v54,v55,v56,v57,v58,v59,v60,v61,v62,v63,v64,v65,v66,v67,v68,v69,v70,v71,v72,v73,v74,v75,v76,v77,v78,v79,v80,v81,v82,v83,v84,v85,v86,v87,v88,v89,v90,v91,v92,v93,v94,v95,v96,v97,v98,v99,v100,v101,v102,v103,v104,v105,v106,v107,v108,v109,v110,v111,v112,v113,v114,v115,v116,v117,v118,v119,v120,v121,v122,v123,v124,v125,v126,v127,v128,v129,v130,v131,v132,v133,v134,v135,v136,v137,v138,v139,v140,v141,v142,v143,v144,v145,v146,v147,v148,v149,v150,v151,v152,v153,v154,v155,v156,v157,v158,v159,v160,v161,v162,v163,v164,v165,v166,v167,v168,v169,v170,v171,v172,v173,v174,v175,v176,v177,v178,v179,v180,v181,v182,v183,v184,v185,v186,v187,v188,v189,v190,v191,v192,v193,v194,v195,v196,v197,v198,v199,v200,v201,v202,v203,v204,v205,v206,v207,v208,v209,v210,v211,v212,v213,v214,v215,v216,v217,v218,v219,v220,v221,v222,v223,v224,v225,v226,v227,v228,v229,v230,v231,v232,v233,v234,v235,v236,v237,v238,v239,v240,v241,v242,v243,v244,v245,v246,v247,v248,v249,v250,v251,v252,v253,v254,v255,v256,v257,v258,v259,v260,v261,v262,v263,v264,v265,v266,v267,v268,v269,v270,v271,v272,v273,v274,v275,v276,v277,v278,v279,v280,v281,v282,v283,v284,v285,v286,v287,v288,v289,v290,v291,v292,v293,v294,v295,v296,v297,v298,v299,v300,v301,v302,v303,v304,v305,v306,v307,v308,v309,v310,v311,v312,v313,v314,v315,v316,v317,v318,v319,v320], []⟩ W := by
  have HMS := Lib.hid hms
  clear hms
  subst hsc
  have HR := Lib.hid hr
  clear hr
  have HS0 := Lib.hid hst
  clear hst
  rw [show Nr 16 = .seq (stmtOf 16 nrBody) (.seq (stmtOf 17 nrBody) (Nr 18)) from by kernel_rfl]
  have hz16 : stmtOf 16 nrBody = stmtOf 16 nrBody := rfl
  conv at hz16 => rhs; whnf
  rw [hz16]; clear hz16
  have hz17 : stmtOf 17 nrBody = stmtOf 17 nrBody := rfl
  conv at hz17 => rhs; whnf
  rw [hz17]; clear hz17
  go_wp2_with (first
    | (go_at_call 33; (with_reducible refine (HCA.out _).mono ?_); rintro e W1 ⟨rfl, b1⟩; have HS1 := Lib.hid (HS0.out.step b1); clear b1)
    | (go_at_call 34; (with_reducible refine (HRI.out _).mono ?_); rintro e W2 ⟨rfl, b2⟩; have HS2 := Lib.hid (HS1.out.step b2); clear b2)
    | (go_at_call 34; (with_reducible refine (HRF.out _).mono ?_); rintro e W3 ⟨rfl, b3⟩; have HS3 := Lib.hid (HS2.out.step b3); clear b3)
    | (go_at_call 33; (with_reducible refine (HCI.out _).mono ?_); rintro e W4 ⟨rfl, b4⟩; have HS4 := Lib.hid (HS3.out.step b4); clear b4)
    | (go_at_call 33; (with_reducible refine (HCF.out _).mono ?_); rintro e W5 ⟨rfl, b5⟩; have hs5 := HS4.out.step b5; have p5 : W5.cell? ⟨pb, 5, none⟩ = some (.int .i64 p.minInt) := hs5.cell 5; have p7 : W5.cell? ⟨pb, 7, none⟩ = some (.int .i64 p.minFrac) := hs5.cell 7; have p8 : W5.cell? ⟨pb, 8, none⟩ = some (.int .i64 p.maxFrac) := hs5.cell 8; have pfz := hs5.frozen; have HS5 := Lib.hid hs5; clear b5 hs5))
  obtain ⟨W7, hW7⟩ : ∃ W7, W7 = ((W5.setCell ⟨pb, 5, none⟩ (.int .i64 (ci : Int))).setCell ⟨pb, 7, none⟩ (.int .i64 (cf : Int))).setCell ⟨pb, 8, none⟩ (.int .i64 (xf : Int)) := ⟨_, rfl⟩
  have hs7 : Nst w W7 rb pb (pD p ci cf xf) := by rw [hW7]; exact ((HS5.out.set 5 _ (pD_set5 p ci)).set 7 _ (pD_set7 _ cf)).set 8 _ (pD_set8 _ xf)
  have HS7 := Lib.hid hs7
  rw [← hW7]
  clear hW7 hs7 p5 p7 p8 pfz HS5
  go_loopw [19, 20] (fun v19 v20 wr => ∃ (i : Nat) (dg : ByteArray), v20 = .int .i64 (i : Int) ∧ v19 = .string dg ∧ i ≤ na ∧ Hid (dg = dg35 ((N.L al).take i)) ∧ wr = W7) (fun _ v20 _ => na - (RowKit.intOf v20).toNat)
  case atStart => exact ⟨0, ⟨#[]⟩, rfl, rfl, by omega, Lib.hid rfl, rfl⟩
  case round =>
    obtain ⟨i, dg, rfl, rfl, hi, HDG, hwr⟩ := hrel
    subst hwr
    by_cases hia : i < na
    · have hib : i < al.size := by omega
      have hdl : dg.size ≤ i := by rw [HDG.out]; exact dg35_len _ _
      have hx1 : (al.extract i (i + 1)).size = 1 := by rw [ByteArray.size_extract]; omega
      by_cases hb : ((al[i]'hib).toNat : Int) = 35
      · have hb2 : (((al[i]'hib).toNat : Int) == 35) = true := beq_iff_eq.2 hb
        have HB := Lib.hid hb
        clear hb
        go_wp2
        go_roundw
        case rel => exact ⟨i + 1, dg, by go_num, rfl, by omega, Lib.hid (by rw [dg35_no al i hib HB.out]; exact HDG.out), by trivial⟩
        case measure => simp [RowKit.intOf]; omega
      · have hb2 : (((al[i]'hib).toNat : Int) == 35) = false := beq_eq_false_iff_ne.2 hb
        have HB := Lib.hid hb
        have hsl := cut_one al i hib
        clear hb
        go_wp2
        go_roundw
        case rel => exact ⟨i + 1, dg ++ al.extract i (i + 1), by go_num, rfl, by omega, Lib.hid (by rw [dg35_yes al i hib HB.out, ← HDG.out]), by trivial⟩
        case measure => simp [RowKit.intOf]; omega
    · obtain rfl : i = na := by omega
      have hdg : dg = dg35 (N.L al) := by
        rw [HDG.out, List.take_of_length_le (by rw [N.L_len]; omega)]
      have hstr : StripAt dg (mkB ic) := by
        have := strip_at dg
        have e : N.L dg = (N.L al).filter (· != 35) := by rw [hdg]; exact L_mkB _
        rw [e] at this
        rw [HIC.out]
        exact this
      have HSTR := Lib.hid hstr
      clear hdg hstr HDG
      obtain ⟨st, hst⟩ : ∃ st, st = mkB ic := ⟨_, rfl⟩
      rw [← hst] at HSTR
      have hse : st.toList.isEmpty = true := by rw [hst]; exact hie
      have HST0 := Lib.hid hst
      clear hst
      have e7 : (((W8 : World) → Nst w W8 rb pb (pD p ci cf xf) → W8.cell? ⟨pb, 13, none⟩ = some (.string (mkB p.inc)) ∧ W8.cell? ⟨pb, 7, none⟩ = some (.int .i64 (cf : Int)) ∧ W8.cell? ⟨pb, 8, none⟩ = some (.int .i64 (xf : Int)) ∧ W8.cell? ⟨pb, 6, none⟩ = some (.int .i64 (p.maxInt : Int)))) := fun W8 h => ⟨h.cell 13, h.cell 7, h.cell 8, h.cell 6⟩
      have HE7 := Lib.hid e7
      clear e7
      go_wp2_with (first
        | (go_at_call 32; (with_reducible refine (HSTR.out _).mono ?_); rintro e W8 ⟨rfl, b8⟩; have hs8 := HS7.out.step b8; obtain ⟨q13, q7, q8, q6⟩ := HE7.out _ hs8; have pfz := hs8.frozen; have hs13 : Nst w (W8.setCell ⟨pb, 13, none⟩ (.string st)) rb pb (pDi p ci cf xf ic) := (by rw [HST0.out]; exact hs8.set 13 _ (pD_set13 _ ic)); have HS13 := Lib.hid hs13; clear b8 hs8 hs13)
        )
      exact nr18 w _ rb pb k sc sa true pl (pDx p ci cf xf ic n) r HR.out (fun h => by have h2 : 0 < p.minSig := h; rw [HMS.out] at h2; exact absurd h2 (by decide)) (HS13.out.set 6 _ (pD_set6 _ n)) (Nat.le_trans h9 (by omega))
set_option maxHeartbeats 8000000 in
set_option maxRecDepth 1000000 in
theorem nr16_db (w W : World) (rb pb k sc : Nat) (sa : Option Addr) (sci pt : Bool) (pl fr al : ByteArray) (p : N.NP) (r : N.NP × Int) (ca : Int) (he : al.toList.isEmpty = false) (hca : decide (0 < ca) = false) (hst : Nst w W rb pb p) (HCA : Hid (CntAt al 64 ca)) (ci cf xf n : Nat) (hn : pl.size = n) (hxf : fr.size = xf) (na : Nat) (hna : al.size = na) (hna9 : na ≤ 1000000000) (ic : List UInt8) (HIC : Hid (ic = N.incR (N.L al))) (HRI : Hid (RowsAt pl 35 48 48 true)) (HRF : Hid (RowsAt fr 48 35 35 true)) (HCI : Hid (CntAt pl 48 ci)) (HCF : Hid (CntAt fr 48 cf)) (h9 : ic.length ≤ 1000000000) (hms : p.minSig = 0) (hie : (mkB ic).toList.isEmpty = true) (hsc : sci = false) (hr : r = N.g18 (pDi p ci cf xf ic) false k (N.L pl)) :
    Code.wp Try.prog (Nr 16) (bodyPost Try.prog Try.f14 (NPost r w)) ⟨#[v0,v1, .pointer (some ⟨rb, 0, none⟩),v3, .pointer (some ⟨pb, 0, none⟩),v5,v6, .bool sci,v8,v9,v10, .string fr, .bool pt, .slice sa k sc, .string pl,v15,v16,v17, .string al,v19,v20,v21,v22,v23,v24,v25,v26,v27,v28,v29,v30,v31,v32,v33,v34,v35,v36,v37,v38,v39,v40,v41,v42,v43,v44,v45,v46,v47,v48,v49,v50,v51,v52,v53,v54,v55,v56,v57,v58,v59,v60,v61,v62,v63,v64,v65,v66,v67,v68,v69,v70,v71,v72,v73,v74,v75,v76,v77,v78,v79,v80,v81,v82,v83,v84,v85,v86,v87,v88,v89,v90,v91,v92,v93,v94,v95,v96,v97,v98,v99,v100,v101,v102,v103,v104,v105,v106,v107,v108,v109,v110,v111,v112,v113,v114,v115,v116,v117,v118,v119,v120,v121,v122,v123,v124,v125,v126,v127,v128,v129,v130,v131,v132,v133,v134,v135,v136,v137,v138,v139,v140,v141,v142,v143,v144,v145,v146,v147,v148,v149,v150,v151,v152,v153,v154,v155,v156,v157,v158,v159,v160,v161,v162,v163,v164,v165,v166,v167,v168,v169,v170,v171,v172,v173,v174,v175,v176,v177,v178,v179,v180,v181,v182,v183,v184,v185,v186,v187,v188,v189,v190,v191,v192,v193,v194,v195,v196,v197,v198,v199,v200,v201,v202,v203,v204,v205,v206,v207,v208,v209,v210,v211,v212,v213,v214,v215,v216,v217,v218,v219,v220,v221,v222,v223,v224,v225,v226,v227,v228,v229,v230,v231,v232,v233,v234,v235,v236,v237,v238,v239,v240,v241,v242,v243,v244,v245,v246,v247,v248,v249,v250,v251,v252,v253,v254,v255,v256,v257,v258,v259,v260,v261,v262,v263,v264,v265,v266,v267,v268,v269,v270,v271,v272,v273,v274,v275,v276,v277,v278,v279,v280,v281,v282,v283,v284,v285,v286,v287,v288,v289,v290,v291,v292,v293,v294,v295,v296,v297,v298,v299,v300,v301,v302,v303,v304,v305,v306,v307,v308,v309,v310,v311,v312,v313,v314,v315,v316,v317,v318,v319,v320], []⟩ W := by
  have HMS := Lib.hid hms
  clear hms
  subst hsc
  have HR := Lib.hid hr
  clear hr
  have HS0 := Lib.hid hst
  clear hst
  rw [show Nr 16 = .seq (stmtOf 16 nrBody) (.seq (stmtOf 17 nrBody) (Nr 18)) from by kernel_rfl]
  have hz16 : stmtOf 16 nrBody = stmtOf 16 nrBody := rfl
  conv at hz16 => rhs; whnf
  rw [hz16]; clear hz16
  have hz17 : stmtOf 17 nrBody = stmtOf 17 nrBody := rfl
  conv at hz17 => rhs; whnf
  rw [hz17]; clear hz17
  go_wp2_with (first
    | (go_at_call 33; (with_reducible refine (HCA.out _).mono ?_); rintro e W1 ⟨rfl, b1⟩; have HS1 := Lib.hid (HS0.out.step b1); clear b1)
    | (go_at_call 34; (with_reducible refine (HRI.out _).mono ?_); rintro e W2 ⟨rfl, b2⟩; have HS2 := Lib.hid (HS1.out.step b2); clear b2)
    | (go_at_call 34; (with_reducible refine (HRF.out _).mono ?_); rintro e W3 ⟨rfl, b3⟩; have HS3 := Lib.hid (HS2.out.step b3); clear b3)
    | (go_at_call 33; (with_reducible refine (HCI.out _).mono ?_); rintro e W4 ⟨rfl, b4⟩; have HS4 := Lib.hid (HS3.out.step b4); clear b4)
    | (go_at_call 33; (with_reducible refine (HCF.out _).mono ?_); rintro e W5 ⟨rfl, b5⟩; have hs5 := HS4.out.step b5; have p5 : W5.cell? ⟨pb, 5, none⟩ = some (.int .i64 p.minInt) := hs5.cell 5; have p7 : W5.cell? ⟨pb, 7, none⟩ = some (.int .i64 p.minFrac) := hs5.cell 7; have p8 : W5.cell? ⟨pb, 8, none⟩ = some (.int .i64 p.maxFrac) := hs5.cell 8; have pfz := hs5.frozen; have HS5 := Lib.hid hs5; clear b5 hs5))
  obtain ⟨W7, hW7⟩ : ∃ W7, W7 = ((W5.setCell ⟨pb, 5, none⟩ (.int .i64 (ci : Int))).setCell ⟨pb, 7, none⟩ (.int .i64 (cf : Int))).setCell ⟨pb, 8, none⟩ (.int .i64 (xf : Int)) := ⟨_, rfl⟩
  have hs7 : Nst w W7 rb pb (pD p ci cf xf) := by rw [hW7]; exact ((HS5.out.set 5 _ (pD_set5 p ci)).set 7 _ (pD_set7 _ cf)).set 8 _ (pD_set8 _ xf)
  have HS7 := Lib.hid hs7
  rw [← hW7]
  clear hW7 hs7 p5 p7 p8 pfz HS5
  go_loopw [19, 20] (fun v19 v20 wr => ∃ (i : Nat) (dg : ByteArray), v20 = .int .i64 (i : Int) ∧ v19 = .string dg ∧ i ≤ na ∧ Hid (dg = dg35 ((N.L al).take i)) ∧ wr = W7) (fun _ v20 _ => na - (RowKit.intOf v20).toNat)
  case atStart => exact ⟨0, ⟨#[]⟩, rfl, rfl, by omega, Lib.hid rfl, rfl⟩
  case round =>
    obtain ⟨i, dg, rfl, rfl, hi, HDG, hwr⟩ := hrel
    subst hwr
    by_cases hia : i < na
    · have hib : i < al.size := by omega
      have hdl : dg.size ≤ i := by rw [HDG.out]; exact dg35_len _ _
      have hx1 : (al.extract i (i + 1)).size = 1 := by rw [ByteArray.size_extract]; omega
      by_cases hb : ((al[i]'hib).toNat : Int) = 35
      · have hb2 : (((al[i]'hib).toNat : Int) == 35) = true := beq_iff_eq.2 hb
        have HB := Lib.hid hb
        clear hb
        go_wp2
        go_roundw
        case rel => exact ⟨i + 1, dg, by go_num, rfl, by omega, Lib.hid (by rw [dg35_no al i hib HB.out]; exact HDG.out), by trivial⟩
        case measure => simp [RowKit.intOf]; omega
      · have hb2 : (((al[i]'hib).toNat : Int) == 35) = false := beq_eq_false_iff_ne.2 hb
        have HB := Lib.hid hb
        have hsl := cut_one al i hib
        clear hb
        go_wp2
        go_roundw
        case rel => exact ⟨i + 1, dg ++ al.extract i (i + 1), by go_num, rfl, by omega, Lib.hid (by rw [dg35_yes al i hib HB.out, ← HDG.out]), by trivial⟩
        case measure => simp [RowKit.intOf]; omega
    · obtain rfl : i = na := by omega
      have hdg : dg = dg35 (N.L al) := by
        rw [HDG.out, List.take_of_length_le (by rw [N.L_len]; omega)]
      have hstr : StripAt dg (mkB ic) := by
        have := strip_at dg
        have e : N.L dg = (N.L al).filter (· != 35) := by rw [hdg]; exact L_mkB _
        rw [e] at this
        rw [HIC.out]
        exact this
      have HSTR := Lib.hid hstr
      clear hdg hstr HDG
      obtain ⟨st, hst⟩ : ∃ st, st = mkB ic := ⟨_, rfl⟩
      rw [← hst] at HSTR
      have hse : st.toList.isEmpty = true := by rw [hst]; exact hie
      have HST0 := Lib.hid hst
      clear hst
      have e7 : (((W8 : World) → Nst w W8 rb pb (pD p ci cf xf) → W8.cell? ⟨pb, 13, none⟩ = some (.string (mkB p.inc)) ∧ W8.cell? ⟨pb, 7, none⟩ = some (.int .i64 (cf : Int)) ∧ W8.cell? ⟨pb, 8, none⟩ = some (.int .i64 (xf : Int)) ∧ W8.cell? ⟨pb, 6, none⟩ = some (.int .i64 (p.maxInt : Int)))) := fun W8 h => ⟨h.cell 13, h.cell 7, h.cell 8, h.cell 6⟩
      have HE7 := Lib.hid e7
      clear e7
      go_wp2_with (first
        | (go_at_call 32; (with_reducible refine (HSTR.out _).mono ?_); rintro e W8 ⟨rfl, b8⟩; have hs8 := HS7.out.step b8; obtain ⟨q13, q7, q8, q6⟩ := HE7.out _ hs8; have pfz := hs8.frozen; have hs13 : Nst w (W8.setCell ⟨pb, 13, none⟩ (.string st)) rb pb (pDi p ci cf xf ic) := (by rw [HST0.out]; exact hs8.set 13 _ (pD_set13 _ ic)); have HS13 := Lib.hid hs13; clear b8 hs8 hs13)
        )
      exact nr18 w _ rb pb k sc sa false pl (pDi p ci cf xf ic) r HR.out (fun h => by have h2 : 0 < p.minSig := h; rw [HMS.out] at h2; exact absurd h2 (by decide)) HS13.out (Nat.le_trans h9 (by omega))
set_option maxHeartbeats 8000000 in
set_option maxRecDepth 1000000 in
theorem nr16_dc (w W : World) (rb pb k sc : Nat) (sa : Option Addr) (sci pt : Bool) (pl fr al : ByteArray) (p : N.NP) (r : N.NP × Int) (ca : Int) (he : al.toList.isEmpty = false) (hca : decide (0 < ca) = false) (hst : Nst w W rb pb p) (HCA : Hid (CntAt al 64 ca)) (ci cf xf n : Nat) (hn : pl.size = n) (hxf : fr.size = xf) (na : Nat) (hna : al.size = na) (hna9 : na ≤ 1000000000) (ic : List UInt8) (HIC : Hid (ic = N.incR (N.L al))) (HRI : Hid (RowsAt pl 35 48 48 true)) (HRF : Hid (RowsAt fr 48 35 35 true)) (HCI : Hid (CntAt pl 48 ci)) (HCF : Hid (CntAt fr 48 cf)) (h9 : ic.length ≤ 1000000000) (hms : p.minSig = 0) (hie : (mkB ic).toList.isEmpty = false) (hmx : decide (cf < xf) = false) (hsc : sci = false) (hr : r = N.g18 (pDi p ci cf xf ic) false k (N.L pl)) :
    Code.wp Try.prog (Nr 16) (bodyPost Try.prog Try.f14 (NPost r w)) ⟨#[v0,v1, .pointer (some ⟨rb, 0, none⟩),v3, .pointer (some ⟨pb, 0, none⟩),v5,v6, .bool sci,v8,v9,v10, .string fr, .bool pt, .slice sa k sc, .string pl,v15,v16,v17, .string al,v19,v20,v21,v22,v23,v24,v25,v26,v27,v28,v29,v30,v31,v32,v33,v34,v35,v36,v37,v38,v39,v40,v41,v42,v43,v44,v45,v46,v47,v48,v49,v50,v51,v52,v53,v54,v55,v56,v57,v58,v59,v60,v61,v62,v63,v64,v65,v66,v67,v68,v69,v70,v71,v72,v73,v74,v75,v76,v77,v78,v79,v80,v81,v82,v83,v84,v85,v86,v87,v88,v89,v90,v91,v92,v93,v94,v95,v96,v97,v98,v99,v100,v101,v102,v103,v104,v105,v106,v107,v108,v109,v110,v111,v112,v113,v114,v115,v116,v117,v118,v119,v120,v121,v122,v123,v124,v125,v126,v127,v128,v129,v130,v131,v132,v133,v134,v135,v136,v137,v138,v139,v140,v141,v142,v143,v144,v145,v146,v147,v148,v149,v150,v151,v152,v153,v154,v155,v156,v157,v158,v159,v160,v161,v162,v163,v164,v165,v166,v167,v168,v169,v170,v171,v172,v173,v174,v175,v176,v177,v178,v179,v180,v181,v182,v183,v184,v185,v186,v187,v188,v189,v190,v191,v192,v193,v194,v195,v196,v197,v198,v199,v200,v201,v202,v203,v204,v205,v206,v207,v208,v209,v210,v211,v212,v213,v214,v215,v216,v217,v218,v219,v220,v221,v222,v223,v224,v225,v226,v227,v228,v229,v230,v231,v232,v233,v234,v235,v236,v237,v238,v239,v240,v241,v242,v243,v244,v245,v246,v247,v248,v249,v250,v251,v252,v253,v254,v255,v256,v257,v258,v259,v260,v261,v262,v263,v264,v265,v266,v267,v268,v269,v270,v271,v272,v273,v274,v275,v276,v277,v278,v279,v280,v281,v282,v283,v284,v285,v286,v287,v288,v289,v290,v291,v292,v293,v294,v295,v296,v297,v298,v299,v300,v301,v302,v303,v304,v305,v306,v307,v308,v309,v310,v311,v312,v313,v314,v315,v316,v317,v318,v319,v320], []⟩ W := by
  have HMS := Lib.hid hms
  clear hms
  subst hsc
  have HR := Lib.hid hr
  clear hr
  have HS0 := Lib.hid hst
  clear hst
  rw [show Nr 16 = .seq (stmtOf 16 nrBody) (.seq (stmtOf 17 nrBody) (Nr 18)) from by kernel_rfl]
  have hz16 : stmtOf 16 nrBody = stmtOf 16 nrBody := rfl
  conv at hz16 => rhs; whnf
  rw [hz16]; clear hz16
  have hz17 : stmtOf 17 nrBody = stmtOf 17 nrBody := rfl
  conv at hz17 => rhs; whnf
  rw [hz17]; clear hz17
  go_wp2_with (first
    | (go_at_call 33; (with_reducible refine (HCA.out _).mono ?_); rintro e W1 ⟨rfl, b1⟩; have HS1 := Lib.hid (HS0.out.step b1); clear b1)
    | (go_at_call 34; (with_reducible refine (HRI.out _).mono ?_); rintro e W2 ⟨rfl, b2⟩; have HS2 := Lib.hid (HS1.out.step b2); clear b2)
    | (go_at_call 34; (with_reducible refine (HRF.out _).mono ?_); rintro e W3 ⟨rfl, b3⟩; have HS3 := Lib.hid (HS2.out.step b3); clear b3)
    | (go_at_call 33; (with_reducible refine (HCI.out _).mono ?_); rintro e W4 ⟨rfl, b4⟩; have HS4 := Lib.hid (HS3.out.step b4); clear b4)
    | (go_at_call 33; (with_reducible refine (HCF.out _).mono ?_); rintro e W5 ⟨rfl, b5⟩; have hs5 := HS4.out.step b5; have p5 : W5.cell? ⟨pb, 5, none⟩ = some (.int .i64 p.minInt) := hs5.cell 5; have p7 : W5.cell? ⟨pb, 7, none⟩ = some (.int .i64 p.minFrac) := hs5.cell 7; have p8 : W5.cell? ⟨pb, 8, none⟩ = some (.int .i64 p.maxFrac) := hs5.cell 8; have pfz := hs5.frozen; have HS5 := Lib.hid hs5; clear b5 hs5))
  obtain ⟨W7, hW7⟩ : ∃ W7, W7 = ((W5.setCell ⟨pb, 5, none⟩ (.int .i64 (ci : Int))).setCell ⟨pb, 7, none⟩ (.int .i64 (cf : Int))).setCell ⟨pb, 8, none⟩ (.int .i64 (xf : Int)) := ⟨_, rfl⟩
  have hs7 : Nst w W7 rb pb (pD p ci cf xf) := by rw [hW7]; exact ((HS5.out.set 5 _ (pD_set5 p ci)).set 7 _ (pD_set7 _ cf)).set 8 _ (pD_set8 _ xf)
  have HS7 := Lib.hid hs7
  rw [← hW7]
  clear hW7 hs7 p5 p7 p8 pfz HS5
  go_loopw [19, 20] (fun v19 v20 wr => ∃ (i : Nat) (dg : ByteArray), v20 = .int .i64 (i : Int) ∧ v19 = .string dg ∧ i ≤ na ∧ Hid (dg = dg35 ((N.L al).take i)) ∧ wr = W7) (fun _ v20 _ => na - (RowKit.intOf v20).toNat)
  case atStart => exact ⟨0, ⟨#[]⟩, rfl, rfl, by omega, Lib.hid rfl, rfl⟩
  case round =>
    obtain ⟨i, dg, rfl, rfl, hi, HDG, hwr⟩ := hrel
    subst hwr
    by_cases hia : i < na
    · have hib : i < al.size := by omega
      have hdl : dg.size ≤ i := by rw [HDG.out]; exact dg35_len _ _
      have hx1 : (al.extract i (i + 1)).size = 1 := by rw [ByteArray.size_extract]; omega
      by_cases hb : ((al[i]'hib).toNat : Int) = 35
      · have hb2 : (((al[i]'hib).toNat : Int) == 35) = true := beq_iff_eq.2 hb
        have HB := Lib.hid hb
        clear hb
        go_wp2
        go_roundw
        case rel => exact ⟨i + 1, dg, by go_num, rfl, by omega, Lib.hid (by rw [dg35_no al i hib HB.out]; exact HDG.out), by trivial⟩
        case measure => simp [RowKit.intOf]; omega
      · have hb2 : (((al[i]'hib).toNat : Int) == 35) = false := beq_eq_false_iff_ne.2 hb
        have HB := Lib.hid hb
        have hsl := cut_one al i hib
        clear hb
        go_wp2
        go_roundw
        case rel => exact ⟨i + 1, dg ++ al.extract i (i + 1), by go_num, rfl, by omega, Lib.hid (by rw [dg35_yes al i hib HB.out, ← HDG.out]), by trivial⟩
        case measure => simp [RowKit.intOf]; omega
    · obtain rfl : i = na := by omega
      have hdg : dg = dg35 (N.L al) := by
        rw [HDG.out, List.take_of_length_le (by rw [N.L_len]; omega)]
      have hstr : StripAt dg (mkB ic) := by
        have := strip_at dg
        have e : N.L dg = (N.L al).filter (· != 35) := by rw [hdg]; exact L_mkB _
        rw [e] at this
        rw [HIC.out]
        exact this
      have HSTR := Lib.hid hstr
      clear hdg hstr HDG
      obtain ⟨st, hst⟩ : ∃ st, st = mkB ic := ⟨_, rfl⟩
      rw [← hst] at HSTR
      have hse : st.toList.isEmpty = false := by rw [hst]; exact hie
      have HST0 := Lib.hid hst
      clear hst
      have e7 : (((W8 : World) → Nst w W8 rb pb (pD p ci cf xf) → W8.cell? ⟨pb, 13, none⟩ = some (.string (mkB p.inc)) ∧ W8.cell? ⟨pb, 7, none⟩ = some (.int .i64 (cf : Int)) ∧ W8.cell? ⟨pb, 8, none⟩ = some (.int .i64 (xf : Int)) ∧ W8.cell? ⟨pb, 6, none⟩ = some (.int .i64 (p.maxInt : Int)))) := fun W8 h => ⟨h.cell 13, h.cell 7, h.cell 8, h.cell 6⟩
      have HE7 := Lib.hid e7
      clear e7
      go_wp2_with (first
        | (go_at_call 32; (with_reducible refine (HSTR.out _).mono ?_); rintro e W8 ⟨rfl, b8⟩; have hs8 := HS7.out.step b8; obtain ⟨q13, q7, q8, q6⟩ := HE7.out _ hs8; have pfz := hs8.frozen; have hs13 : Nst w (W8.setCell ⟨pb, 13, none⟩ (.string st)) rb pb (pDi p ci cf xf ic) := (by rw [HST0.out]; exact hs8.set 13 _ (pD_set13 _ ic)); have HS13 := Lib.hid hs13; clear b8 hs8 hs13)
        )
      exact nr18 w _ rb pb k sc sa false pl (pDi p ci cf xf ic) r HR.out (fun h => by have h2 : 0 < p.minSig := h; rw [HMS.out] at h2; exact absurd h2 (by decide)) HS13.out (Nat.le_trans h9 (by omega))
/- The reference's Number: the counts, whole. -/

theorem dec_pos (n : Nat) : decide (0 < (n : Int)) = decide (0 < n) := by
  by_cases h : 0 < n
  · rw [decide_eq_true h, decide_eq_true (by omega)]
  · rw [decide_eq_false h, decide_eq_false (by omega)]
theorem dw_lt (a : UInt8 → Bool) (l : List UInt8) (c : UInt8) (h : c ∈ l) (hc : a c = false) : N.sp a l < l.length := by
  have h1 := N.sp_drop a l
  have h2 : l.dropWhile a ≠ [] := fun e => by
    have := N.dw_nil e
    rw [← this] at h
    have := N.tw_all a l c h
    rw [hc] at this
    exact absurd this (by decide)
  have := List.length_pos_iff.2 h2
  omega
theorem nr16 (w W : World) (rb pb k sc : Nat) (sa : Option Addr) (sci pt : Bool) (pl fr al : ByteArray) (p : N.NP) (r : N.NP × Int) (hr : r = N.g16 p sci pt k (N.L pl) (N.L fr)) (hal : N.L al = N.L pl ++ N.L fr) (hf : pt = false → N.L fr = []) (hz : p.minSig = 0) (hi : p.inc = []) (h9 : al.size ≤ 1000000000) (hst : Nst w W rb pb p) :
    Code.wp Try.prog (Nr 16) (bodyPost Try.prog Try.f14 (NPost r w)) ⟨#[v0,v1, .pointer (some ⟨rb, 0, none⟩),v3, .pointer (some ⟨pb, 0, none⟩),v5,v6, .bool sci,v8,v9,v10, .string fr, .bool pt, .slice sa k sc, .string pl,v15,v16,v17, .string al,v19,v20,v21,v22,v23,v24,v25,v26,v27,v28,v29,v30,v31,v32,v33,v34,v35,v36,v37,v38,v39,v40,v41,v42,v43,v44,v45,v46,v47,v48,v49,v50,v51,v52,v53,v54,v55,v56,v57,v58,v59,v60,v61,v62,v63,v64,v65,v66,v67,v68,v69,v70,v71,v72,v73,v74,v75,v76,v77,v78,v79,v80,v81,v82,v83,v84,v85,v86,v87,v88,v89,v90,v91,v92,v93,v94,v95,v96,v97,v98,v99,v100,v101,v102,v103,v104,v105,v106,v107,v108,v109,v110,v111,v112,v113,v114,v115,v116,v117,v118,v119,v120,v121,v122,v123,v124,v125,v126,v127,v128,v129,v130,v131,v132,v133,v134,v135,v136,v137,v138,v139,v140,v141,v142,v143,v144,v145,v146,v147,v148,v149,v150,v151,v152,v153,v154,v155,v156,v157,v158,v159,v160,v161,v162,v163,v164,v165,v166,v167,v168,v169,v170,v171,v172,v173,v174,v175,v176,v177,v178,v179,v180,v181,v182,v183,v184,v185,v186,v187,v188,v189,v190,v191,v192,v193,v194,v195,v196,v197,v198,v199,v200,v201,v202,v203,v204,v205,v206,v207,v208,v209,v210,v211,v212,v213,v214,v215,v216,v217,v218,v219,v220,v221,v222,v223,v224,v225,v226,v227,v228,v229,v230,v231,v232,v233,v234,v235,v236,v237,v238,v239,v240,v241,v242,v243,v244,v245,v246,v247,v248,v249,v250,v251,v252,v253,v254,v255,v256,v257,v258,v259,v260,v261,v262,v263,v264,v265,v266,v267,v268,v269,v270,v271,v272,v273,v274,v275,v276,v277,v278,v279,v280,v281,v282,v283,v284,v285,v286,v287,v288,v289,v290,v291,v292,v293,v294,v295,v296,v297,v298,v299,v300,v301,v302,v303,v304,v305,v306,v307,v308,v309,v310,v311,v312,v313,v314,v315,v316,v317,v318,v319,v320], []⟩ W := by
  have hsz : al.size = pl.size + fr.size := by
    have := congrArg List.length hal
    rwa [List.length_append, N.L_len, N.L_len, N.L_len] at this
  unfold N.g16 at hr
  by_cases h0 : N.L pl ++ N.L fr = []
  · rw [if_pos h0] at hr
    exact nr16_0 w W rb pb k sc sa sci pt pl fr al p r (by rw [isE_iff, hal]; exact decide_eq_true h0) hr hst
  rw [if_neg h0] at hr
  have he : al.toList.isEmpty = false := by rw [isE_iff, hal]; exact decide_eq_false h0
  have HCA : Hid (CntAt al 64 (((N.L pl ++ N.L fr).count 64 : Nat) : Int)) := Lib.hid (by have := cnt_at al 64 (by decide) h9; rw [hal] at this; exact this)
  have HCD := Lib.hid (cnt_dig pl (by omega))
  by_cases h1 : 0 < (N.L pl ++ N.L fr).count 64
  · rw [if_pos h1] at hr
    have hca : decide (0 < (((N.L pl ++ N.L fr).count 64 : Nat) : Int)) = true := by rw [dec_pos]; exact decide_eq_true h1
    unfold N.gSig at hr
    cases pt with
    | true =>
      rw [if_pos (.inl rfl)] at hr
      exact nr16_s6p w W rb pb k sc sa sci true pl fr al p r _ he hca rfl hr hst HCA
    | false =>
      have hfr := hf rfl
      by_cases h2 : 0 < (N.L pl).countP N.dig
      · rw [if_pos (.inr h2)] at hr
        exact nr16_s6d w W rb pb k sc sa sci false pl fr al p r _ _ he hca rfl (by rw [dec_pos]; exact decide_eq_true h2) hr hst HCA HCD
      rw [if_neg (by rintro (h | h); exact absurd h (by decide); exact h2 h)] at hr
      have hcd : decide (0 < (((N.L pl).countP N.dig : Nat) : Int)) = false := by rw [dec_pos]; exact decide_eq_false h2
      have HRW := rows_sigAt pl (by omega)
      cases hrw : N.rowsS (N.L pl) with
      | false =>
        rw [hrw] at HRW
        rw [if_pos hrw] at hr
        exact nr16_s4 w W rb pb k sc sa sci false pl fr al p r _ _ he hca rfl hcd hr hst HCA HCD (Lib.hid HRW)
      | true =>
        rw [hrw] at HRW
        rw [if_neg (by rw [hrw]; decide)] at hr
        have hm : (64 : UInt8) ∈ N.L pl := by
          have := (N.count_pos _ _).1 h1
          rwa [hfr, List.append_nil] at this
        have hsp := dw_lt N.isH (N.L pl) 64 hm (by decide)
        have hd := N.sp_drop N.isH (N.L pl)
        rw [N.L_len] at hsp hd
        have hp : N.pSigR p (N.L pl) = pS p ((N.L pl).count 64) (pl.size - N.sp N.isH (N.L pl)) := by
          unfold N.pSigR pS
          rw [show ((N.L pl).dropWhile N.isH).length = pl.size - N.sp N.isH (N.L pl) by omega]
        rw [hp] at hr
        exact nr16_s w W rb pb k sc sa sci false pl fr al p r _ _ _ pl.size rfl (by omega) he hca rfl hcd hsp hr hst (by rw [hi]; exact Nat.zero_le _) HCA HCD (Lib.hid HRW) (Lib.hid (cnt_at pl 64 (by decide) (by omega)))
  · rw [if_neg h1] at hr
    have hca : decide (0 < (((N.L pl ++ N.L fr).count 64 : Nat) : Int)) = false := by rw [dec_pos]; exact decide_eq_false h1
    unfold N.gDig at hr
    have HRI := rows_intAt pl (by omega)
    have HRF := rows_fracAt fr (by omega)
    cases h2 : N.rowsI (N.L pl) with
    | false =>
      rw [h2] at HRI
      rw [if_pos (.inl h2)] at hr
      exact nr16_d4a w W rb pb k sc sa sci pt pl fr al p r _ he hca hst HCA (Lib.hid HRI) hr
    | true =>
      rw [h2] at HRI
      cases h3 : N.rowsF (N.L fr) with
      | false =>
        rw [h3] at HRF
        rw [if_pos (.inr h3)] at hr
        exact nr16_d4b w W rb pb k sc sa sci pt pl fr al p r _ he hca hst HCA (Lib.hid HRI) (Lib.hid HRF) hr
      | true =>
        rw [h3] at HRF
        rw [if_neg (by rw [h2, h3]; decide)] at hr
        have HCF := Lib.hid (cnt_dig fr (by omega))
        have HIC : Hid (N.incR (N.L pl ++ N.L fr) = N.incR (N.L al)) := Lib.hid (by rw [hal])
        have h9i : (N.incR (N.L pl ++ N.L fr)).length ≤ 1000000000 := by
          unfold N.incR
          have a1 := N.dw_len_le N.is0 ((N.L pl ++ N.L fr).filter (· != 35))
          have a2 := List.length_filter_le (· != 35) (N.L pl ++ N.L fr)
          rw [← hal, N.L_len] at a2
          rw [← hal] at a1 ⊢
          omega
        have hme : ∀ b : Bool, (decide (N.incR (N.L pl ++ N.L fr) = []) = b) → (mkB (N.incR (N.L pl ++ N.L fr))).toList.isEmpty = b := fun b h => by rw [isE_iff, L_mkB]; exact h
        have hdec : ∀ b : Bool, (decide ((N.L fr).countP N.dig < (N.L fr).length) = b) → decide ((N.L fr).countP N.dig < fr.size) = b := fun b h => by rw [← N.L_len]; exact h
        by_cases h4 : N.incR (N.L pl ++ N.L fr) = []
        · rw [if_neg (fun h => h.1 h4)] at hr
          have hie := hme true (decide_eq_true h4)
          cases sci with
          | true =>
            have hp : N.pDigR p true (N.L pl) (N.L fr) = pDx p ((N.L pl).countP N.dig) ((N.L fr).countP N.dig) fr.size (N.incR (N.L pl ++ N.L fr)) pl.size := by
              unfold N.pDigR pDx pDi pD
              rw [if_pos rfl, N.L_len, N.L_len]
            rw [hp] at hr
            exact nr16_da w W rb pb k sc sa true pt pl fr al p r _ he hca hst HCA _ _ _ _ rfl rfl _ rfl h9 _ HIC (Lib.hid HRI) (Lib.hid HRF) HCD HCF h9i hz hie rfl hr
          | false =>
            have hp : N.pDigR p false (N.L pl) (N.L fr) = pDi p ((N.L pl).countP N.dig) ((N.L fr).countP N.dig) fr.size (N.incR (N.L pl ++ N.L fr)) := by
              unfold N.pDigR pDi pD
              rw [if_neg (by decide), N.L_len]
            rw [hp] at hr
            exact nr16_db w W rb pb k sc sa false pt pl fr al p r _ he hca hst HCA _ _ _ _ rfl rfl _ rfl h9 _ HIC (Lib.hid HRI) (Lib.hid HRF) HCD HCF h9i hz hie rfl hr
        · have hie := hme false (decide_eq_false h4)
          by_cases h5 : (N.L fr).countP N.dig < (N.L fr).length
          · rw [if_pos ⟨h4, .inl h5⟩] at hr
            exact nr16_d6a w W rb pb k sc sa sci pt pl fr al p r _ he hca hst HCA _ _ _ _ rfl rfl _ rfl h9 _ HIC (Lib.hid HRI) (Lib.hid HRF) HCD HCF h9i hz hie (hdec true (decide_eq_true h5)) hr
          have hmx := hdec false (decide_eq_false h5)
          cases sci with
          | true =>
            rw [if_pos ⟨h4, .inr rfl⟩] at hr
            exact nr16_d6b w W rb pb k sc sa true pt pl fr al p r _ he hca hst HCA _ _ _ _ rfl rfl _ rfl h9 _ HIC (Lib.hid HRI) (Lib.hid HRF) HCD HCF h9i hz hie hmx rfl hr
          | false =>
            rw [if_neg (by rintro ⟨_, h | h⟩; exact h5 h; exact absurd h (by decide))] at hr
            have hp : N.pDigR p false (N.L pl) (N.L fr) = pDi p ((N.L pl).countP N.dig) ((N.L fr).countP N.dig) fr.size (N.incR (N.L pl ++ N.L fr)) := by
              unfold N.pDigR pDi pD
              rw [if_neg (by decide), N.L_len]
            rw [hp] at hr
            exact nr16_dc w W rb pb k sc sa false pt pl fr al p r _ he hca hst HCA _ _ _ _ rfl rfl _ rfl h9 _ HIC (Lib.hid HRI) (Lib.hid HRF) HCD HCF h9i hz hie hmx rfl hr
/- The reference's Number: what the groups say. -/

set_option maxHeartbeats 8000000 in
set_option maxRecDepth 1000000 in
theorem nr15 (w W : World) (rb pb k sc : Nat) (sa : Option Addr) (sci pt : Bool) (pl fr : ByteArray) (p : N.NP) (r : N.NP × Int) (hr : r = N.g16 p sci pt k (N.L pl) (N.L fr)) (hf : pt = false → N.L fr = []) (hz : p.minSig = 0) (hi : p.inc = []) (h9 : pl.size + fr.size ≤ 1000000000) (hst : Nst w W rb pb p) :
    Code.wp Try.prog (Nr 15) (bodyPost Try.prog Try.f14 (NPost r w)) ⟨#[v0,v1, .pointer (some ⟨rb, 0, none⟩),v3, .pointer (some ⟨pb, 0, none⟩),v5,v6, .bool sci,v8,v9,v10, .string fr, .bool pt, .slice sa k sc, .string pl,v15,v16,v17,v18,v19,v20,v21,v22,v23,v24,v25,v26,v27,v28,v29,v30,v31,v32,v33,v34,v35,v36,v37,v38,v39,v40,v41,v42,v43,v44,v45,v46,v47,v48,v49,v50,v51,v52,v53,v54,v55,v56,v57,v58,v59,v60,v61,v62,v63,v64,v65,v66,v67,v68,v69,v70,v71,v72,v73,v74,v75,v76,v77,v78,v79,v80,v81,v82,v83,v84,v85,v86,v87,v88,v89,v90,v91,v92,v93,v94,v95,v96,v97,v98,v99,v100,v101,v102,v103,v104,v105,v106,v107,v108,v109,v110,v111,v112,v113,v114,v115,v116,v117,v118,v119,v120,v121,v122,v123,v124,v125,v126,v127,v128,v129,v130,v131,v132,v133,v134,v135,v136,v137,v138,v139,v140,v141,v142,v143,v144,v145,v146,v147,v148,v149,v150,v151,v152,v153,v154,v155,v156,v157,v158,v159,v160,v161,v162,v163,v164,v165,v166,v167,v168,v169,v170,v171,v172,v173,v174,v175,v176,v177,v178,v179,v180,v181,v182,v183,v184,v185,v186,v187,v188,v189,v190,v191,v192,v193,v194,v195,v196,v197,v198,v199,v200,v201,v202,v203,v204,v205,v206,v207,v208,v209,v210,v211,v212,v213,v214,v215,v216,v217,v218,v219,v220,v221,v222,v223,v224,v225,v226,v227,v228,v229,v230,v231,v232,v233,v234,v235,v236,v237,v238,v239,v240,v241,v242,v243,v244,v245,v246,v247,v248,v249,v250,v251,v252,v253,v254,v255,v256,v257,v258,v259,v260,v261,v262,v263,v264,v265,v266,v267,v268,v269,v270,v271,v272,v273,v274,v275,v276,v277,v278,v279,v280,v281,v282,v283,v284,v285,v286,v287,v288,v289,v290,v291,v292,v293,v294,v295,v296,v297,v298,v299,v300,v301,v302,v303,v304,v305,v306,v307,v308,v309,v310,v311,v312,v313,v314,v315,v316,v317,v318,v319,v320], []⟩ W := by
  have HST := Lib.hid hst
  have HR := Lib.hid hr
  have HF := Lib.hid hf
  have HZ := Lib.hid hz
  have HI := Lib.hid hi
  clear hst hr hf hz hi
  rw [show Nr 15 = .seq (stmtOf 15 nrBody) (Nr 16) from by kernel_rfl]
  have hz15 : stmtOf 15 nrBody = stmtOf 15 nrBody := rfl
  conv at hz15 => rhs; whnf
  rw [hz15]; clear hz15
  go_wp2
  exact nr16 w W rb pb k sc sa sci pt pl fr (pl ++ fr) p r HR.out (L_app _ _) HF.out HZ.out HI.out (by rw [ByteArray.size_append]; exact h9) HST.out
/- One group. -/
set_option maxHeartbeats 8000000 in
set_option maxRecDepth 1000000 in
theorem nr13_a (w W : World) (rb pb k sc : Nat) (sa : Option Addr) (sci pt : Bool) (pl fr : ByteArray) (p : N.NP) (r : N.NP × Int) (hk : ¬ 1 < k) (hr : r = N.g16 p sci pt k (N.L pl) (N.L fr)) (hf : pt = false → N.L fr = []) (hz : p.minSig = 0) (hi : p.inc = []) (h9 : pl.size + fr.size ≤ 1000000000) (hst : Nst w W rb pb p) :
    Code.wp Try.prog (Nr 13) (bodyPost Try.prog Try.f14 (NPost r w)) ⟨#[v0,v1, .pointer (some ⟨rb, 0, none⟩),v3, .pointer (some ⟨pb, 0, none⟩),v5,v6, .bool sci,v8,v9,v10, .string fr, .bool pt, .slice sa k sc, .string pl,v15,v16,v17,v18,v19,v20,v21,v22,v23,v24,v25,v26,v27,v28,v29,v30,v31,v32,v33,v34,v35,v36,v37,v38,v39,v40,v41,v42,v43,v44,v45,v46,v47,v48,v49,v50,v51,v52,v53,v54,v55,v56,v57,v58,v59,v60,v61,v62,v63,v64,v65,v66,v67,v68,v69,v70,v71,v72,v73,v74,v75,v76,v77,v78,v79,v80,v81,v82,v83,v84,v85,v86,v87,v88,v89,v90,v91,v92,v93,v94,v95,v96,v97,v98,v99,v100,v101,v102,v103,v104,v105,v106,v107,v108,v109,v110,v111,v112,v113,v114,v115,v116,v117,v118,v119,v120,v121,v122,v123,v124,v125,v126,v127,v128,v129,v130,v131,v132,v133,v134,v135,v136,v137,v138,v139,v140,v141,v142,v143,v144,v145,v146,v147,v148,v149,v150,v151,v152,v153,v154,v155,v156,v157,v158,v159,v160,v161,v162,v163,v164,v165,v166,v167,v168,v169,v170,v171,v172,v173,v174,v175,v176,v177,v178,v179,v180,v181,v182,v183,v184,v185,v186,v187,v188,v189,v190,v191,v192,v193,v194,v195,v196,v197,v198,v199,v200,v201,v202,v203,v204,v205,v206,v207,v208,v209,v210,v211,v212,v213,v214,v215,v216,v217,v218,v219,v220,v221,v222,v223,v224,v225,v226,v227,v228,v229,v230,v231,v232,v233,v234,v235,v236,v237,v238,v239,v240,v241,v242,v243,v244,v245,v246,v247,v248,v249,v250,v251,v252,v253,v254,v255,v256,v257,v258,v259,v260,v261,v262,v263,v264,v265,v266,v267,v268,v269,v270,v271,v272,v273,v274,v275,v276,v277,v278,v279,v280,v281,v282,v283,v284,v285,v286,v287,v288,v289,v290,v291,v292,v293,v294,v295,v296,v297,v298,v299,v300,v301,v302,v303,v304,v305,v306,v307,v308,v309,v310,v311,v312,v313,v314,v315,v316,v317,v318,v319,v320], []⟩ W := by
  have HST := Lib.hid hst
  have HR := Lib.hid hr
  have HF := Lib.hid hf
  have HZ := Lib.hid hz
  have HI := Lib.hid hi
  clear hst hr hf hz hi
  have hk2 : ¬ 2 < k := by omega
  rw [show Nr 13 = .seq (stmtOf 13 nrBody) (.seq (stmtOf 14 nrBody) (Nr 15)) from by kernel_rfl]
  have hz13 : stmtOf 13 nrBody = stmtOf 13 nrBody := rfl
  conv at hz13 => rhs; whnf
  rw [hz13]; clear hz13
  have hz14 : stmtOf 14 nrBody = stmtOf 14 nrBody := rfl
  conv at hz14 => rhs; whnf
  rw [hz14]; clear hz14
  go_wp2
  exact nr15 w W rb pb k sc sa sci pt pl fr p r HR.out HF.out HZ.out HI.out h9 HST.out
theorem pG_set11 (p : N.NP) (c : Nat) : (patN p).setIfInBounds 11 (.int .i64 (c : Int)) = patN { p with prim := c } := by simp [patN]
theorem pG_set12 (p : N.NP) (c : Nat) : (patN p).setIfInBounds 12 (.int .i64 (c : Int)) = patN { p with sec := c } := by simp [patN]
theorem Nst.drew {w W : World} {rb pb : Nat} {p : N.NP} (h : Nst w W rb pb p) : Nst w W.drew rb pb p :=
  ⟨below_drew1 h.below, h.rlo, h.plo, h.ne, h.res, h.pat⟩
theorem cell_other (W : World) (b i : Nat) (u : Value) (k o : Nat) (h : k ≠ b) : (W.setCell ⟨b, i, none⟩ u).cell? ⟨k, o, none⟩ = W.cell? ⟨k, o, none⟩ := by
  have := Below.heap_setCell W ⟨b, i, none⟩ u k h
  simp only [World.cell?, this]
theorem idx_int (bk so k c i : Nat) (x : Int) (hx : x = (i : Int)) (hi : i < k) (W : World) :
    (Instr.indexAt 74 (.slice (some ⟨bk, so, none⟩) k c) (.int .i64 x)).run Try.prog W = .ok (.pointer (some ⟨bk, so + i, none⟩)) W := by
  have ht : Try.prog.underlying 74 = some (.slice (Try.prog.elem 74)) := by kernel_rfl
  have he : Try.prog.elem 74 = 3 := by kernel_rfl
  have hz : ∀ w, (Go.sizeOf 3).run Try.prog w = .ok 1 w := fun w => by kernel_rfl
  subst hx
  rw [run_indexAt_slice _ _ _ _ _ _ _ ht, he, if_pos ⟨by omega, by omega⟩, hz]
  simp [Result.andThen, Addr.add_lit]
/- Two groups. -/
set_option maxHeartbeats 8000000 in
set_option maxRecDepth 1000000 in
theorem nr13_b (w W : World) (rb pb k sc sb so : Nat) (sci pt : Bool) (pl fr : ByteArray) (p : N.NP) (r : N.NP × Int) (zs : List Nat) (hzl : zs.length = k) (hk : k = 2) (hsb : sb ≠ pb) (hc : ∀ j, j < k → W.cell? ⟨sb, so + j, none⟩ = some (.int .i64 ((zs.getD j 0 : Nat) : Int)))
    (hr : r = N.g16 { p with prim := zs.getD (k - 1) 0, sec := zs.getD (k - 1) 0 } sci pt k (N.L pl) (N.L fr)) (hf : pt = false → N.L fr = []) (hz : p.minSig = 0) (hi : p.inc = []) (h9 : pl.size + fr.size ≤ 1000000000) (hst : Nst w W rb pb p) :
    Code.wp Try.prog (Nr 13) (bodyPost Try.prog Try.f14 (NPost r w)) ⟨#[v0,v1, .pointer (some ⟨rb, 0, none⟩),v3, .pointer (some ⟨pb, 0, none⟩),v5,v6, .bool sci,v8,v9,v10, .string fr, .bool pt, .slice (some ⟨sb, so, none⟩) k sc, .string pl,v15,v16,v17,v18,v19,v20,v21,v22,v23,v24,v25,v26,v27,v28,v29,v30,v31,v32,v33,v34,v35,v36,v37,v38,v39,v40,v41,v42,v43,v44,v45,v46,v47,v48,v49,v50,v51,v52,v53,v54,v55,v56,v57,v58,v59,v60,v61,v62,v63,v64,v65,v66,v67,v68,v69,v70,v71,v72,v73,v74,v75,v76,v77,v78,v79,v80,v81,v82,v83,v84,v85,v86,v87,v88,v89,v90,v91,v92,v93,v94,v95,v96,v97,v98,v99,v100,v101,v102,v103,v104,v105,v106,v107,v108,v109,v110,v111,v112,v113,v114,v115,v116,v117,v118,v119,v120,v121,v122,v123,v124,v125,v126,v127,v128,v129,v130,v131,v132,v133,v134,v135,v136,v137,v138,v139,v140,v141,v142,v143,v144,v145,v146,v147,v148,v149,v150,v151,v152,v153,v154,v155,v156,v157,v158,v159,v160,v161,v162,v163,v164,v165,v166,v167,v168,v169,v170,v171,v172,v173,v174,v175,v176,v177,v178,v179,v180,v181,v182,v183,v184,v185,v186,v187,v188,v189,v190,v191,v192,v193,v194,v195,v196,v197,v198,v199,v200,v201,v202,v203,v204,v205,v206,v207,v208,v209,v210,v211,v212,v213,v214,v215,v216,v217,v218,v219,v220,v221,v222,v223,v224,v225,v226,v227,v228,v229,v230,v231,v232,v233,v234,v235,v236,v237,v238,v239,v240,v241,v242,v243,v244,v245,v246,v247,v248,v249,v250,v251,v252,v253,v254,v255,v256,v257,v258,v259,v260,v261,v262,v263,v264,v265,v266,v267,v268,v269,v270,v271,v272,v273,v274,v275,v276,v277,v278,v279,v280,v281,v282,v283,v284,v285,v286,v287,v288,v289,v290,v291,v292,v293,v294,v295,v296,v297,v298,v299,v300,v301,v302,v303,v304,v305,v306,v307,v308,v309,v310,v311,v312,v313,v314,v315,v316,v317,v318,v319,v320], []⟩ W := by
  subst hk
  have HST := Lib.hid hst
  have HR := Lib.hid hr
  have HF := Lib.hid hf
  have HZ := Lib.hid hz
  have HI := Lib.hid hi
  have HL := Lib.hid hzl
  obtain ⟨x1, hx1⟩ : ∃ x1 : Nat, x1 = zs.getD 1 0 := ⟨_, rfl⟩
  have c1 : W.cell? ⟨sb, so + 1, none⟩ = some (.int .i64 (x1 : Int)) := by rw [hx1]; exact hc 1 (by omega)
  have hix := fun W => idx_int sb so 2 sc 1 1 rfl (by omega) W
  have hp11 : W.cell? ⟨pb, 11, none⟩ = some (.int .i64 p.prim) := hst.cell 11
  have hp12 : W.cell? ⟨pb, 12, none⟩ = some (.int .i64 p.sec) := hst.cell 12
  have hfz := hst.frozen
  have HX1 := Lib.hid hx1
  clear hst hr hf hz hi hzl hc hx1
  rw [show Nr 13 = .seq (stmtOf 13 nrBody) (.seq (stmtOf 14 nrBody) (Nr 15)) from by kernel_rfl]
  have hz13 : stmtOf 13 nrBody = stmtOf 13 nrBody := rfl
  conv at hz13 => rhs; whnf
  rw [hz13]; clear hz13
  have hz14 : stmtOf 14 nrBody = stmtOf 14 nrBody := rfl
  conv at hz14 => rhs; whnf
  rw [hz14]; clear hz14
  go_wp2
  go_region
  obtain ⟨W2, hW2⟩ : ∃ W2, W2 = ((W.setCell ⟨pb, 11, none⟩ (.int .i64 (x1 : Int))).setCell ⟨pb, 12, none⟩ (.int .i64 (x1 : Int))).drew := ⟨_, rfl⟩
  rw [← hW2]
  have hs2 : Nst w W2 rb pb { p with prim := x1, sec := x1 } := by rw [hW2]; exact ((HST.out.set 11 _ (pG_set11 p x1)).set 12 _ (pG_set12 _ x1)).drew
  have HS2 := Lib.hid hs2
  clear hW2 hs2 hp11 hp12 hfz c1 hix
  go_wp2
  exact nr15 w W2 rb pb 2 sc _ sci pt pl fr { p with prim := x1, sec := x1 } r (by rw [HR.out, HX1.out]) HF.out HZ.out HI.out h9 HS2.out
/- Three groups and more. -/
set_option maxHeartbeats 8000000 in
set_option maxRecDepth 1000000 in
theorem nr13_c (w W : World) (rb pb k sc sb so : Nat) (sci pt : Bool) (pl fr : ByteArray) (p : N.NP) (r : N.NP × Int) (zs : List Nat) (hzl : zs.length = k) (hk : 2 < k) (hk9 : k ≤ 1000000001) (hsb : sb ≠ pb) (hc : ∀ j, j < k → W.cell? ⟨sb, so + j, none⟩ = some (.int .i64 ((zs.getD j 0 : Nat) : Int)))
    (hr : r = N.g16 { p with prim := zs.getD (k - 1) 0, sec := zs.getD (k - 2) 0 } sci pt k (N.L pl) (N.L fr)) (hf : pt = false → N.L fr = []) (hz : p.minSig = 0) (hi : p.inc = []) (h9 : pl.size + fr.size ≤ 1000000000) (hst : Nst w W rb pb p) :
    Code.wp Try.prog (Nr 13) (bodyPost Try.prog Try.f14 (NPost r w)) ⟨#[v0,v1, .pointer (some ⟨rb, 0, none⟩),v3, .pointer (some ⟨pb, 0, none⟩),v5,v6, .bool sci,v8,v9,v10, .string fr, .bool pt, .slice (some ⟨sb, so, none⟩) k sc, .string pl,v15,v16,v17,v18,v19,v20,v21,v22,v23,v24,v25,v26,v27,v28,v29,v30,v31,v32,v33,v34,v35,v36,v37,v38,v39,v40,v41,v42,v43,v44,v45,v46,v47,v48,v49,v50,v51,v52,v53,v54,v55,v56,v57,v58,v59,v60,v61,v62,v63,v64,v65,v66,v67,v68,v69,v70,v71,v72,v73,v74,v75,v76,v77,v78,v79,v80,v81,v82,v83,v84,v85,v86,v87,v88,v89,v90,v91,v92,v93,v94,v95,v96,v97,v98,v99,v100,v101,v102,v103,v104,v105,v106,v107,v108,v109,v110,v111,v112,v113,v114,v115,v116,v117,v118,v119,v120,v121,v122,v123,v124,v125,v126,v127,v128,v129,v130,v131,v132,v133,v134,v135,v136,v137,v138,v139,v140,v141,v142,v143,v144,v145,v146,v147,v148,v149,v150,v151,v152,v153,v154,v155,v156,v157,v158,v159,v160,v161,v162,v163,v164,v165,v166,v167,v168,v169,v170,v171,v172,v173,v174,v175,v176,v177,v178,v179,v180,v181,v182,v183,v184,v185,v186,v187,v188,v189,v190,v191,v192,v193,v194,v195,v196,v197,v198,v199,v200,v201,v202,v203,v204,v205,v206,v207,v208,v209,v210,v211,v212,v213,v214,v215,v216,v217,v218,v219,v220,v221,v222,v223,v224,v225,v226,v227,v228,v229,v230,v231,v232,v233,v234,v235,v236,v237,v238,v239,v240,v241,v242,v243,v244,v245,v246,v247,v248,v249,v250,v251,v252,v253,v254,v255,v256,v257,v258,v259,v260,v261,v262,v263,v264,v265,v266,v267,v268,v269,v270,v271,v272,v273,v274,v275,v276,v277,v278,v279,v280,v281,v282,v283,v284,v285,v286,v287,v288,v289,v290,v291,v292,v293,v294,v295,v296,v297,v298,v299,v300,v301,v302,v303,v304,v305,v306,v307,v308,v309,v310,v311,v312,v313,v314,v315,v316,v317,v318,v319,v320], []⟩ W := by
  have HST := Lib.hid hst
  have HR := Lib.hid hr
  have HF := Lib.hid hf
  have HZ := Lib.hid hz
  have HI := Lib.hid hi
  have HL := Lib.hid hzl
  have hk1 : 1 < k := by omega
  obtain ⟨x1, hx1⟩ : ∃ x1 : Nat, x1 = zs.getD (k - 1) 0 := ⟨_, rfl⟩
  obtain ⟨x2, hx2⟩ : ∃ x2 : Nat, x2 = zs.getD (k - 2) 0 := ⟨_, rfl⟩
  obtain ⟨o1, ho1⟩ : ∃ o1 : Nat, o1 = so + (k - 1) := ⟨_, rfl⟩
  obtain ⟨o2, ho2⟩ : ∃ o2 : Nat, o2 = so + (k - 2) := ⟨_, rfl⟩
  have c1 : W.cell? ⟨sb, o1, none⟩ = some (.int .i64 (x1 : Int)) := by rw [hx1, ho1]; exact hc (k - 1) (by omega)
  have c2 : W.cell? ⟨sb, o2, none⟩ = some (.int .i64 (x2 : Int)) := by rw [hx2, ho2]; exact hc (k - 2) (by omega)
  have hix1 : ∀ W, (Instr.indexAt 74 (.slice (some ⟨sb, so, none⟩) k sc) (.int .i64 ((k : Int) - 1))).run Try.prog W = .ok (.pointer (some ⟨sb, o1, none⟩)) W := fun W => by rw [ho1]; exact idx_int sb so k sc (k - 1) _ (by omega) (by omega) W
  have hix2 : ∀ W, (Instr.indexAt 74 (.slice (some ⟨sb, so, none⟩) k sc) (.int .i64 ((k : Int) - 2))).run Try.prog W = .ok (.pointer (some ⟨sb, o2, none⟩)) W := fun W => by rw [ho2]; exact idx_int sb so k sc (k - 2) _ (by omega) (by omega) W
  have hw1 : IntKind.i64.wrap ((k : Int) - 1) = (k : Int) - 1 := IntWalk.i64_in _ (by omega)
  have hp11 : W.cell? ⟨pb, 11, none⟩ = some (.int .i64 p.prim) := hst.cell 11
  have hp12 : W.cell? ⟨pb, 12, none⟩ = some (.int .i64 p.sec) := hst.cell 12
  have hfz := hst.frozen
  have HX1 := Lib.hid hx1
  have HX2 := Lib.hid hx2
  clear hst hr hf hz hi hzl hc hx1 hx2 ho1 ho2
  rw [show Nr 13 = .seq (stmtOf 13 nrBody) (.seq (stmtOf 14 nrBody) (Nr 15)) from by kernel_rfl]
  have hz13 : stmtOf 13 nrBody = stmtOf 13 nrBody := rfl
  conv at hz13 => rhs; whnf
  rw [hz13]; clear hz13
  have hz14 : stmtOf 14 nrBody = stmtOf 14 nrBody := rfl
  conv at hz14 => rhs; whnf
  rw [hz14]; clear hz14
  go_wp2
  go_region
  obtain ⟨W2, hW2⟩ : ∃ W2, W2 = ((W.setCell ⟨pb, 11, none⟩ (.int .i64 (x1 : Int))).setCell ⟨pb, 12, none⟩ (.int .i64 (x1 : Int))).drew := ⟨_, rfl⟩
  rw [← hW2]
  have hs2 : Nst w W2 rb pb { p with prim := x1, sec := x1 } := by rw [hW2]; exact ((HST.out.set 11 _ (pG_set11 p x1)).set 12 _ (pG_set12 _ x1)).drew
  have hp12b : W2.cell? ⟨pb, 12, none⟩ = some (.int .i64 (x1 : Int)) := hs2.cell 12
  have hfz2 := hs2.frozen
  have c2b : W2.cell? ⟨sb, o2, none⟩ = some (.int .i64 (x2 : Int)) := by
    rw [hW2]
    have e1 : ∀ (W : World) (a : Addr), W.drew.cell? a = W.cell? a := fun _ _ => rfl
    rw [e1, cell_other _ _ _ _ _ _ hsb, cell_other _ _ _ _ _ _ hsb]
    exact c2
  have HS2 := Lib.hid hs2
  clear hW2 hs2 hp11 hp12 hfz c1 c2 hix1
  go_wp2
  exact nr15 w _ rb pb k sc _ sci pt pl fr { p with prim := x1, sec := x2 } r (by rw [HR.out, HX1.out, HX2.out]) HF.out HZ.out HI.out h9 (HS2.out.set 12 _ (pG_set12 _ x2))
/-- The stage of the groups' numbers. -/
theorem nr13 (w W : World) (rb pb k sc sb so : Nat) (sci pt : Bool) (pl fr : ByteArray) (p : N.NP) (r : N.NP × Int) (zs : List Nat) (hzl : zs.length = k) (hk9 : k ≤ 1000000001) (hsb : sb ≠ pb) (hc : ∀ j, j < k → W.cell? ⟨sb, so + j, none⟩ = some (.int .i64 ((zs.getD j 0 : Nat) : Int)))
    (hr : r = N.g16 (N.pGrp p zs) sci pt k (N.L pl) (N.L fr)) (hf : pt = false → N.L fr = []) (hz : p.minSig = 0) (hi : p.inc = []) (h9 : pl.size + fr.size ≤ 1000000000) (hst : Nst w W rb pb p) :
    Code.wp Try.prog (Nr 13) (bodyPost Try.prog Try.f14 (NPost r w)) ⟨#[v0,v1, .pointer (some ⟨rb, 0, none⟩),v3, .pointer (some ⟨pb, 0, none⟩),v5,v6, .bool sci,v8,v9,v10, .string fr, .bool pt, .slice (some ⟨sb, so, none⟩) k sc, .string pl,v15,v16,v17,v18,v19,v20,v21,v22,v23,v24,v25,v26,v27,v28,v29,v30,v31,v32,v33,v34,v35,v36,v37,v38,v39,v40,v41,v42,v43,v44,v45,v46,v47,v48,v49,v50,v51,v52,v53,v54,v55,v56,v57,v58,v59,v60,v61,v62,v63,v64,v65,v66,v67,v68,v69,v70,v71,v72,v73,v74,v75,v76,v77,v78,v79,v80,v81,v82,v83,v84,v85,v86,v87,v88,v89,v90,v91,v92,v93,v94,v95,v96,v97,v98,v99,v100,v101,v102,v103,v104,v105,v106,v107,v108,v109,v110,v111,v112,v113,v114,v115,v116,v117,v118,v119,v120,v121,v122,v123,v124,v125,v126,v127,v128,v129,v130,v131,v132,v133,v134,v135,v136,v137,v138,v139,v140,v141,v142,v143,v144,v145,v146,v147,v148,v149,v150,v151,v152,v153,v154,v155,v156,v157,v158,v159,v160,v161,v162,v163,v164,v165,v166,v167,v168,v169,v170,v171,v172,v173,v174,v175,v176,v177,v178,v179,v180,v181,v182,v183,v184,v185,v186,v187,v188,v189,v190,v191,v192,v193,v194,v195,v196,v197,v198,v199,v200,v201,v202,v203,v204,v205,v206,v207,v208,v209,v210,v211,v212,v213,v214,v215,v216,v217,v218,v219,v220,v221,v222,v223,v224,v225,v226,v227,v228,v229,v230,v231,v232,v233,v234,v235,v236,v237,v238,v239,v240,v241,v242,v243,v244,v245,v246,v247,v248,v249,v250,v251,v252,v253,v254,v255,v256,v257,v258,v259,v260,v261,v262,v263,v264,v265,v266,v267,v268,v269,v270,v271,v272,v273,v274,v275,v276,v277,v278,v279,v280,v281,v282,v283,v284,v285,v286,v287,v288,v289,v290,v291,v292,v293,v294,v295,v296,v297,v298,v299,v300,v301,v302,v303,v304,v305,v306,v307,v308,v309,v310,v311,v312,v313,v314,v315,v316,v317,v318,v319,v320], []⟩ W := by
  unfold N.pGrp at hr
  rw [hzl] at hr
  by_cases h1 : 1 < k
  · rw [if_pos h1] at hr
    by_cases h2 : 2 < k
    · rw [if_pos h2] at hr
      exact nr13_c w W rb pb k sc sb so sci pt pl fr p r zs hzl h2 hk9 hsb hc hr hf hz hi h9 hst
    · rw [if_neg h2] at hr
      exact nr13_b w W rb pb k sc sb so sci pt pl fr p r zs hzl (by omega) hsb hc hr hf hz hi h9 hst
  · rw [if_neg h1] at hr
    exact nr13_a w W rb pb k sc _ sci pt pl fr p r h1 hr hf hz hi h9 hst
/- The reference's Number: no group is empty. -/

theorem zero_mem (zs : List Nat) : 0 ∈ zs ↔ ∃ j, j < zs.length ∧ zs.getD j 0 = 0 := by
  constructor
  · intro h
    obtain ⟨j, hj, h0⟩ := List.getElem_of_mem h
    exact ⟨j, hj, by simp [List.getD, hj, h0]⟩
  · rintro ⟨j, hj, h0⟩
    simp [List.getD, hj] at h0
    rw [← h0]
    exact List.getElem_mem hj
set_option maxHeartbeats 8000000 in
set_option maxRecDepth 1000000 in
theorem nr12 (w W : World) (rb pb k sc sb so : Nat) (sci pt : Bool) (pl fr : ByteArray) (p : N.NP) (r : N.NP × Int) (zs : List Nat) (hzl : zs.length = k) (hk9 : k ≤ 1000000001) (hsb : sb ≠ pb) (hc : ∀ j, j < k → W.cell? ⟨sb, so + j, none⟩ = some (.int .i64 ((zs.getD j 0 : Nat) : Int)))
    (hr : r = N.g12 p sci pt zs (N.L pl) (N.L fr)) (hf : pt = false → N.L fr = []) (hz : p.minSig = 0) (hi : p.inc = []) (h9 : pl.size + fr.size ≤ 1000000000) (hst : Nst w W rb pb p) :
    Code.wp Try.prog (Nr 12) (bodyPost Try.prog Try.f14 (NPost r w)) ⟨#[v0,v1, .pointer (some ⟨rb, 0, none⟩),v3, .pointer (some ⟨pb, 0, none⟩),v5,v6, .bool sci,v8,v9,v10, .string fr, .bool pt, .slice (some ⟨sb, so, none⟩) k sc, .string pl,v15,v16,v17,v18,v19,v20,v21,v22,v23,v24,v25,v26,v27,v28,v29,v30,v31,v32,v33,v34,v35,v36,v37,v38,v39,v40,v41,v42,v43,v44,v45,v46,v47,v48,v49,v50,v51,v52,v53,v54,v55,v56,v57,v58,v59,v60,v61,v62,v63,v64,v65,v66,v67,v68,v69,v70,v71,v72,v73,v74,v75,v76,v77,v78,v79,v80,v81,v82,v83,v84,v85,v86,v87,v88,v89,v90,v91,v92,v93,v94,v95,v96,v97,v98,v99,v100,v101,v102,v103,v104,v105,v106,v107,v108,v109,v110,v111,v112,v113,v114,v115,v116,v117,v118,v119,v120,v121,v122,v123,v124,v125,v126,v127,v128,v129,v130,v131,v132,v133,v134,v135,v136,v137,v138,v139,v140,v141,v142,v143,v144,v145,v146,v147,v148,v149,v150,v151,v152,v153,v154,v155,v156,v157,v158,v159,v160,v161,v162,v163,v164,v165,v166,v167,v168,v169,v170,v171,v172,v173,v174,v175,v176,v177,v178,v179,v180,v181,v182,v183,v184,v185,v186,v187,v188,v189,v190,v191,v192,v193,v194,v195,v196,v197,v198,v199,v200,v201,v202,v203,v204,v205,v206,v207,v208,v209,v210,v211,v212,v213,v214,v215,v216,v217,v218,v219,v220,v221,v222,v223,v224,v225,v226,v227,v228,v229,v230,v231,v232,v233,v234,v235,v236,v237,v238,v239,v240,v241,v242,v243,v244,v245,v246,v247,v248,v249,v250,v251,v252,v253,v254,v255,v256,v257,v258,v259,v260,v261,v262,v263,v264,v265,v266,v267,v268,v269,v270,v271,v272,v273,v274,v275,v276,v277,v278,v279,v280,v281,v282,v283,v284,v285,v286,v287,v288,v289,v290,v291,v292,v293,v294,v295,v296,v297,v298,v299,v300,v301,v302,v303,v304,v305,v306,v307,v308,v309,v310,v311,v312,v313,v314,v315,v316,v317,v318,v319,v320], []⟩ W := by
  have HS0 := Lib.hid hst
  have HR := Lib.hid hr
  have HF := Lib.hid hf
  have HZ := Lib.hid hz
  have HI := Lib.hid hi
  have HL := Lib.hid hzl
  have HC := Lib.hid hc
  clear hst hr hf hz hi hzl hc
  rw [show Nr 12 = .seq (stmtOf 12 nrBody) (Nr 13) from by kernel_rfl]
  have hz12 : stmtOf 12 nrBody = stmtOf 12 nrBody := rfl
  conv at hz12 => rhs; whnf
  rw [hz12]; clear hz12
  go_wp2
  go_loopw [17] (fun v17 wr => ∃ i : Nat, v17 = .int .i64 (i : Int) ∧ i ≤ k ∧ (1 < k → ∀ j, j < i → zs.getD j 0 ≠ 0) ∧ wr = W) (fun v17 _ => k - (RowKit.intOf v17).toNat)
  case atStart => exact ⟨0, rfl, by omega, fun _ j hj => by omega, rfl⟩
  case round =>
    obtain ⟨i, rfl, hik, hall, hwr⟩ := hrel
    subst hwr
    have HALL := Lib.hid hall
    clear hall
    by_cases hi2 : i < k
    · by_cases h1 : 1 < k
      · obtain ⟨x, hx⟩ : ∃ x : Int, ((zs.getD i 0 : Nat) : Int) = x := ⟨_, rfl⟩
        obtain ⟨o, ho⟩ : ∃ o : Nat, o = so + i := ⟨_, rfl⟩
        have c1 : wr.cell? ⟨sb, o, none⟩ = some (.int .i64 x) := by rw [← hx, ho]; exact HC.out i hi2
        have hix : ∀ W, (Instr.indexAt 74 (.slice (some ⟨sb, so, none⟩) k sc) (.int .i64 (i : Int))).run Try.prog W = .ok (.pointer (some ⟨sb, o, none⟩)) W := fun W => by rw [ho]; exact idx_int sb so k sc i _ rfl hi2 W
        clear ho
        by_cases h0 : zs.getD i 0 = 0
        · have ht : (x == 0) = true := beq_iff_eq.2 (by omega)
          have hr5 : r = (N.np0, 5) := by
            rw [HR.out]
            unfold N.g12
            rw [if_pos ⟨by rw [HL.out]; exact h1, (zero_mem zs).2 ⟨i, by rw [HL.out]; exact hi2, h0⟩⟩]
          subst hr5
          have HST := HS0
          clear hx h0 HR
          go_wp2_with (((with_reducible refine gate_store (t := 26) (p := 2) rfl ?_); refine store_new_event rfl rfl rfl rb (patI 0 0 0 0 0 0 0 0 ⟨#[]⟩ false 0 false) _ 26 rfl rfl HST.out.res (by kernel_rfl) rfl (patI_one _ _ _ _ _ _ _ _ _ _ _ _) ?_; intro W9 hW9 hput; have HB9 := Lib.hid (hput.below HST.out.below HST.out.rlo); have HR9 := Lib.hid hW9; clear hput hW9))
          refine bodyPost_ret (results_cell_tmp rfl _ _ rb 26 (patI 0 0 0 0 0 0 0 0 ⟨#[]⟩ false 0 false) (0, 0) _ rfl HR9.out Try.underlying26 rfl (by kernel_rfl)) rfl ?_
          exact ⟨rfl, HB9.out⟩
        · have ht : (x == 0) = false := beq_eq_false_iff_ne.2 (by omega)
          have H0 := Lib.hid h0
          clear hx h0
          go_wp2
          go_roundw
          case rel =>
            refine ⟨i + 1, by go_num, by omega, fun _ j hj => ?_, by trivial⟩
            by_cases e : j = i
            · rw [e]; exact H0.out
            · exact HALL.out h1 j (by omega)
          case measure => simp [RowKit.intOf]; omega
      · go_wp2
        go_roundw
        case rel => exact ⟨i + 1, by go_num, by omega, fun h => absurd h h1, by trivial⟩
        case measure => simp [RowKit.intOf]; omega
    · obtain rfl : i = k := by omega
      go_wp2
      refine nr13 w wr rb pb i sc sb so sci pt pl fr p r zs HL.out hk9 hsb HC.out ?_ HF.out HZ.out HI.out h9 HS0.out
      rw [HR.out]
      unfold N.g12
      rw [if_neg, HL.out]
      rintro ⟨h1, h2⟩
      rw [HL.out] at h1
      obtain ⟨j, hj, h3⟩ := (zero_mem zs).1 h2
      rw [HL.out] at hj
      exact HALL.out h1 j hj h3
/- The reference's Number: the groups are cut. -/

theorem cell_spot3 {w : World} {a : Addr} {v : Value} (h : w.cell? a = some v) : a.spot = none := by
  unfold World.cell? at h
  split at h
  · cases hs : a.spot with
    | none => rfl
    | some x => rw [hs] at h; cases h
  · cases h
theorem ints_at3 {w : World} {A : Option Addr} {l : List Int} (h : Kd.C (Kd.int .i64) w A l.length l) (hl : l ≠ []) :
    ∃ bk o, A = some ⟨bk, o, none⟩ ∧ ∀ (j : Nat) x, l[j]? = some x → w.cell? ⟨bk, o + j, none⟩ = some (.int .i64 x) := by
  obtain ⟨_, _, hc⟩ := h
  obtain ⟨⟨bk, o, sp⟩, rfl, hc2⟩ := hc (List.length_pos_iff.2 hl)
  have one : ∀ (j : Nat) x, l[j]? = some x → w.cell? (Addr.add ⟨bk, o, sp⟩ j) = some (.int .i64 x) := fun j x hx => by
    obtain ⟨c, _, hK, hcell⟩ := hc2 j x hx
    have hK2 : c = [.int .i64 x] := hK
    subst hK2
    have := hcell 0 _ rfl
    rwa [show (Kd.int .i64).sz = 1 from rfl, Nat.mul_one, Nat.add_zero] at this
  obtain ⟨x, r, rfl⟩ := List.exists_cons_of_ne_nil hl
  have h0 := one 0 x rfl
  have hsp : sp = none := by
    have := cell_spot3 h0
    simpa [Addr.add] using this
  subst hsp
  refine ⟨bk, o, rfl, fun j x hx => ?_⟩
  have h1 := one j x hx
  have e : Addr.add (⟨bk, o, none⟩ : Addr) j = ⟨bk, o + j, none⟩ := by
    by_cases h : j = 0
    · simp [Addr.add, h]
    · simp [Addr.add, h]
  rwa [e] at h1
/-- One byte more. -/
def gf (s : List Nat × Nat) (b : UInt8) : List Nat × Nat := if b = 44 then (s.1 ++ [s.2], 0) else (s.1, s.2 + 1)
theorem gf_all : ∀ (t : List UInt8) (zs : List Nat) (n : Nat), ∃ h l, N.splitC 44 t = h :: l ∧ (t.foldl gf (zs, n)).1 ++ [(t.foldl gf (zs, n)).2] = zs ++ (n + h.length) :: l.map List.length
  | [], zs, n => ⟨[], [], rfl, rfl⟩
  | b :: t, zs, n => by
    by_cases hb : b = 44
    · obtain ⟨h, l, e1, e2⟩ := gf_all t (zs ++ [n]) 0
      refine ⟨[], h :: l, by rw [N.splitC, if_pos hb, e1], ?_⟩
      rw [List.foldl_cons]
      have : gf (zs, n) b = (zs ++ [n], 0) := by unfold gf; rw [if_pos hb]
      rw [this, e2]
      simp
    · obtain ⟨h, l, e1, e2⟩ := gf_all t zs (n + 1)
      refine ⟨b :: h, l, by rw [N.splitC, if_neg hb, e1], ?_⟩
      rw [List.foldl_cons]
      have : gf (zs, n) b = (zs, n + 1) := by unfold gf; rw [if_neg hb]
      rw [this, e2]
      simp; omega
theorem gf_end (t : List UInt8) (zs : List Nat) (n : Nat) (h : t.foldl gf ([], 0) = (zs, n)) : zs ++ [n] = (N.splitC 44 t).map List.length := by
  obtain ⟨g, l, e1, e2⟩ := gf_all t [] 0
  rw [h] at e2
  rw [e1]
  simpa using e2
def f44 (l : List UInt8) : ByteArray := mkB (l.filter (· != 44))
def GS (t : List UInt8) (i : Nat) (zs : List Nat) (n : Nat) (dg : ByteArray) : Prop :=
  if i ≤ t.length then (t.take i).foldl gf ([], 0) = (zs, n) ∧ dg = f44 (t.take i) else zs = (N.splitC 44 t).map List.length ∧ dg = f44 t
theorem take_one (s : ByteArray) (i : Nat) (h : i < s.size) : (N.L s).take (i + 1) = (N.L s).take i ++ [s[i]'h] := by
  have e1 : (N.L s)[i]? = some (s[i]'h) := List.getElem?_eq_getElem (by rw [N.L_len]; exact h)
  rw [List.take_add_one, e1, Option.toList_some]
theorem ext_one (s : ByteArray) (i : Nat) (h : i < s.size) : s.extract i (i + 1) = mkB [s[i]'h] := by
  have e1 : (N.L s)[i]? = some (s[i]'h) := List.getElem?_eq_getElem (by rw [N.L_len]; exact h)
  have := congrArg mkB (L_ext s i (i + 1))
  rw [mkB_L] at this
  rw [this]
  obtain ⟨b, hb3, hd⟩ := drop_get (N.L s) i (by rw [N.L_len]; exact h)
  rw [e1] at hb3
  rw [Nat.add_sub_cancel_left, hd, Option.some.inj hb3]
  rfl
theorem GS_byte (s : ByteArray) (i n : Nat) (zs : List Nat) (dg : ByteArray) (h : i < s.size) (hb : ((s[i]'h).toNat : Int) ≠ 44) (g : GS (N.L s) i zs n dg) : GS (N.L s) (i + 1) zs (n + 1) (dg ++ s.extract i (i + 1)) := by
  unfold GS at g ⊢
  rw [N.L_len] at g ⊢
  rw [if_pos (by omega)] at g
  have hne : ¬ s[i]'h = 44 := fun e => hb (by rw [e]; rfl)
  rw [if_pos (by omega), take_one s i h, List.foldl_append, g.1, ext_one s i h, g.2]
  refine ⟨by simp [gf, hne], ?_⟩
  unfold f44
  rw [List.filter_append, mkB_app]
  have e3 : [s[i]'h].filter (· != 44) = [s[i]'h] := by rw [List.filter_cons, if_pos (bne_iff_ne.2 hne)]; rfl
  rw [e3]
theorem GS_comma (s : ByteArray) (i n : Nat) (zs : List Nat) (dg : ByteArray) (h : i < s.size) (hb : ((s[i]'h).toNat : Int) = 44) (g : GS (N.L s) i zs n dg) : GS (N.L s) (i + 1) (zs ++ [n]) 0 dg := by
  unfold GS at g ⊢
  rw [N.L_len] at g ⊢
  rw [if_pos (by omega)] at g
  have he : s[i]'h = 44 := UInt8.toNat_inj.1 (by have e35 : (44 : UInt8).toNat = 44 := rfl; omega)
  rw [if_pos (by omega), take_one s i h, List.foldl_append, g.1, he]
  refine ⟨rfl, ?_⟩
  rw [g.2]
  unfold f44
  rw [List.filter_append]
  have e3 : [(44 : UInt8)].filter (· != 44) = [] := rfl
  rw [e3, List.append_nil]
theorem GS_last (s : ByteArray) (n : Nat) (zs : List Nat) (dg : ByteArray) (g : GS (N.L s) s.size zs n dg) : GS (N.L s) (s.size + 1) (zs ++ [n]) 0 dg := by
  unfold GS at g ⊢
  rw [N.L_len] at g ⊢
  rw [if_pos (Nat.le_refl _), List.take_of_length_le (by rw [N.L_len]; exact Nat.le_refl _)] at g
  rw [if_neg (by omega)]
  exact ⟨gf_end _ _ _ g.1, g.2⟩
theorem GS_all (s : ByteArray) (n : Nat) (zs : List Nat) (dg : ByteArray) (g : GS (N.L s) (s.size + 1) zs n dg) : zs = (N.splitC 44 (N.L s)).map List.length ∧ N.L dg = (N.splitC 44 (N.L s)).flatten := by
  unfold GS at g
  rw [N.L_len, if_neg (by omega)] at g
  refine ⟨g.1, ?_⟩
  rw [g.2, N.splitC_flat]
  exact L_mkB _
set_option maxHeartbeats 8000000 in
set_option maxRecDepth 1000000 in
theorem nr8 (w W : World) (rb pb m : Nat) (sci pt : Bool) (wh fr : ByteArray) (p : N.NP) (r : N.NP × Int) (hm : wh.size = m)
    (hr : r = N.g12 p sci pt ((N.splitC 44 (N.L wh)).map List.length) (N.splitC 44 (N.L wh)).flatten (N.L fr)) (hf : pt = false → N.L fr = []) (hz : p.minSig = 0) (hi : p.inc = []) (h9 : m + fr.size ≤ 1000000000) (hst : Nst w W rb pb p) :
    Code.wp Try.prog (Nr 8) (bodyPost Try.prog Try.f14 (NPost r w)) ⟨#[v0,v1, .pointer (some ⟨rb, 0, none⟩),v3, .pointer (some ⟨pb, 0, none⟩),v5,v6, .bool sci,v8,v9, .string wh, .string fr, .bool pt,v13,v14,v15,v16,v17,v18,v19,v20,v21,v22,v23,v24,v25,v26,v27,v28,v29,v30,v31,v32,v33,v34,v35,v36,v37,v38,v39,v40,v41,v42,v43,v44,v45,v46,v47,v48,v49,v50,v51,v52,v53,v54,v55,v56,v57,v58,v59,v60,v61,v62,v63,v64,v65,v66,v67,v68,v69,v70,v71,v72,v73,v74,v75,v76,v77,v78,v79,v80,v81,v82,v83,v84,v85,v86,v87,v88,v89,v90,v91,v92,v93,v94,v95,v96,v97,v98,v99,v100,v101,v102,v103,v104,v105,v106,v107,v108,v109,v110,v111,v112,v113,v114,v115,v116,v117,v118,v119,v120,v121,v122,v123,v124,v125,v126,v127,v128,v129,v130,v131,v132,v133,v134,v135,v136,v137,v138,v139,v140,v141,v142,v143,v144,v145,v146,v147,v148,v149,v150,v151,v152,v153,v154,v155,v156,v157,v158,v159,v160,v161,v162,v163,v164,v165,v166,v167,v168,v169,v170,v171,v172,v173,v174,v175,v176,v177,v178,v179,v180,v181,v182,v183,v184,v185,v186,v187,v188,v189,v190,v191,v192,v193,v194,v195,v196,v197,v198,v199,v200,v201,v202,v203,v204,v205,v206,v207,v208,v209,v210,v211,v212,v213,v214,v215,v216,v217,v218,v219,v220,v221,v222,v223,v224,v225,v226,v227,v228,v229,v230,v231,v232,v233,v234,v235,v236,v237,v238,v239,v240,v241,v242,v243,v244,v245,v246,v247,v248,v249,v250,v251,v252,v253,v254,v255,v256,v257,v258,v259,v260,v261,v262,v263,v264,v265,v266,v267,v268,v269,v270,v271,v272,v273,v274,v275,v276,v277,v278,v279,v280,v281,v282,v283,v284,v285,v286,v287,v288,v289,v290,v291,v292,v293,v294,v295,v296,v297,v298,v299,v300,v301,v302,v303,v304,v305,v306,v307,v308,v309,v310,v311,v312,v313,v314,v315,v316,v317,v318,v319,v320], []⟩ W := by
  have HS0 := Lib.hid hst
  have HR := Lib.hid hr
  have HF := Lib.hid hf
  have HZ := Lib.hid hz
  have HI := Lib.hid hi
  have hpbW := blk_lt hst.pat
  have HPB := Lib.hid hpbW
  clear hst hr hf hz hi hpbW
  rw [show Nr 8 = .seq (stmtOf 8 nrBody) (.seq (stmtOf 9 nrBody) (.seq (stmtOf 10 nrBody) (.seq (stmtOf 11 nrBody) (Nr 12)))) from by kernel_rfl]
  have hz8 : stmtOf 8 nrBody = stmtOf 8 nrBody := rfl
  conv at hz8 => rhs; whnf
  rw [hz8]; clear hz8
  have hz9 : stmtOf 9 nrBody = stmtOf 9 nrBody := rfl
  conv at hz9 => rhs; whnf
  rw [hz9]; clear hz9
  have hz10 : stmtOf 10 nrBody = stmtOf 10 nrBody := rfl
  conv at hz10 => rhs; whnf
  rw [hz10]; clear hz10
  have hz11 : stmtOf 11 nrBody = stmtOf 11 nrBody := rfl
  conv at hz11 => rhs; whnf
  rw [hz11]; clear hz11
  go_wp2
  go_loopw [13, 14, 15, 16] (fun v13 v14 v15 v16 wr => ∃ (i n : Nat) (zs : List Nat) (dg : ByteArray), v16 = .int .i64 (i : Int) ∧ v15 = .int .i64 (n : Int) ∧ v14 = .string dg ∧ i ≤ m + 1 ∧ Hid (GS (N.L wh) i zs n dg) ∧ dg.size ≤ i ∧ zs.length ≤ i ∧ n ≤ i ∧ Below W.heap.size W wr ∧ Kd.R (Kd.int .i64) 3 wr W.heap.size (fun _ => True) v13 (zs.map (fun x : Nat => (x : Int)))) (fun _ _ _ v16 _ => m + 1 - (RowKit.intOf v16).toNat)
  case atStart => exact ⟨0, 0, [], ⟨#[]⟩, rfl, rfl, rfl, by omega, Lib.hid (by unfold GS; rw [if_pos (Nat.zero_le _)]; exact ⟨rfl, rfl⟩), by decide, by simp, by omega, Below.refl _ _, Kd.R_nil _ _ _ _ _⟩
  case round =>
    obtain ⟨i, n, zs, dg, rfl, rfl, rfl, hi, HG, hdg, hzl, hn, hbw, hR⟩ := hrel
    have HB := Lib.hid hbw
    have hwz := hbw.size
    have HRR := Lib.hid hR
    clear hbw hR
    by_cases him : i < m
    · have hib : i < wh.size := by omega
      have hx1 : (wh.extract i (i + 1)).size = 1 := by rw [ByteArray.size_extract]; omega
      have hsl := cut_one wh i hib
      by_cases hb : ((wh[i]'hib).toNat : Int) = 44
      · have hb2 : (((wh[i]'hib).toNat : Int) == 44) = true := beq_iff_eq.2 hb
        have HBY := Lib.hid hb
        clear hb hsl
        go_wp2_with (((with_reducible refine gate_builtin (b := .append) (xs := #[.tmp 136, .tmp 138]) rfl ?_); at_builtin; refine Kd.R_append (Kd.int .i64) (w0 := W) W.heap.size rfl (.tmp 136) (.tmp 138) 74 3 (.int .i64 0) 8 rfl Try.underlying74 (by kernel_rfl) rfl (by decide) (by omega) u13 (zs.map (fun x : Nat => (x : Int))) (n : Int) [.int .i64 (n : Int)] (fun _ => True) (fun _ => False) rfl rfl ?aP (fun _ hk => hk.elim) ?aF ?aO ?aB ?aS ?aL ?_; (case aP => exact rfl); (case aB => exact HB.out); (case aF => exact (fun _ _ => trivial)); (case aO => exact HRR.out); (case aS => omega); (case aL => rw [List.length_map]; omega); intro v140 w10 ho hb10 hg hat; have HO := Lib.hid ho; have HB10 := Lib.hid hb10; clear hg hat ho hb10))
        go_roundw
        case rel =>
          refine ⟨i + 1, 0, zs ++ [n], dg, by go_num, rfl, rfl, by omega, Lib.hid (GS_comma wh i n zs dg hib HBY.out HG.out), by omega, by rw [List.length_append, List.length_singleton]; omega, by omega, HB10.out, ?_⟩
          rw [List.map_append]
          exact HO.out
        case measure => simp [RowKit.intOf] <;> omega
      · have hb2 : (((wh[i]'hib).toNat : Int) == 44) = false := beq_eq_false_iff_ne.2 hb
        have HBY := Lib.hid hb
        clear hb
        go_wp2
        go_roundw
        case rel => exact ⟨i + 1, n + 1, zs, dg ++ wh.extract i (i + 1), by go_num, by go_num, rfl, by omega, Lib.hid (GS_byte wh i n zs dg hib HBY.out HG.out), by rw [ByteArray.size_append, hx1]; omega, by omega, by omega, HB.out, HRR.out⟩
        case measure => simp [RowKit.intOf] <;> omega
    · by_cases hie : i = m
      · subst hie
        go_wp2_with (((with_reducible refine gate_builtin (b := .append) (xs := #[.tmp 136, .tmp 138]) rfl ?_); at_builtin; refine Kd.R_append (Kd.int .i64) (w0 := W) W.heap.size rfl (.tmp 136) (.tmp 138) 74 3 (.int .i64 0) 8 rfl Try.underlying74 (by kernel_rfl) rfl (by decide) (by omega) u13 (zs.map (fun x : Nat => (x : Int))) (n : Int) [.int .i64 (n : Int)] (fun _ => True) (fun _ => False) rfl rfl ?aP (fun _ hk => hk.elim) ?aF ?aO ?aB ?aS ?aL ?_; (case aP => exact rfl); (case aB => exact HB.out); (case aF => exact (fun _ _ => trivial)); (case aO => exact HRR.out); (case aS => omega); (case aL => rw [List.length_map]; omega); intro v140 w10 ho hb10 hg hat; have HO := Lib.hid ho; have HB10 := Lib.hid hb10; clear hg hat ho hb10))
        go_roundw
        case rel =>
          refine ⟨i + 1, 0, zs ++ [n], dg, by go_num, rfl, rfl, by omega, Lib.hid (by have := GS_last wh n zs dg (by rw [hm]; exact HG.out); rwa [hm] at this), by omega, by rw [List.length_append, List.length_singleton]; omega, by omega, HB10.out, ?_⟩
          rw [List.map_append]
          exact HO.out
        case measure => simp [RowKit.intOf] <;> omega
      · obtain rfl : i = m + 1 := by omega
        have hga := GS_all wh n zs dg (by rw [hm]; exact HG.out)
        have hdm : dg.size ≤ m := by
          have h1 := congrArg List.length hga.2
          rw [N.splitC_flat, N.L_len] at h1
          have h2 := List.length_filter_le (fun c => c != 44) (N.L wh)
          rw [N.L_len] at h2
          omega
        have HGA := Lib.hid hga
        clear hga
        obtain ⟨A, c, he, hlc, hC⟩ := Kd.R_reads HRR.out
        obtain ⟨inner, hown⟩ := Kd.R_own HRR.out
        have hne : zs.map (fun x : Nat => (x : Int)) ≠ [] := by
          rw [HGA.out.1]
          intro e
          exact N.splitC_ne 44 (N.L wh) (List.map_eq_nil_iff.1 (List.map_eq_nil_iff.1 e))
        obtain ⟨sb, so, hA, hcells⟩ := ints_at3 hC hne
        subst hA
        subst he
        have hsb := own_base hown sb rfl
        have hpb := HPB.out
        have HCS := Lib.hid hcells
        have HNS : Hid (Nst w wr rb pb p) := Lib.hid (HS0.out.step HB.out)
        rw [List.length_map]
        clear hcells hC hown hne hlc
        go_wp2
        refine nr12 w wr rb pb zs.length c sb so sci pt dg fr p r zs rfl (by omega) (by omega) (fun j hj => ?_) ?_ HF.out HZ.out HI.out (by omega) HNS.out
        · have := HCS.out j ((zs.getD j 0 : Nat) : Int) (by rw [List.getElem?_map]; simp [List.getD, hj])
          exact this
        · rw [HR.out, HGA.out.2, ← HGA.out.1]
/- The reference's Number: the body's parts. -/

set_option maxHeartbeats 8000000 in
set_option maxRecDepth 1000000 in
theorem nr5_a (w W : World) (rb pb : Nat) (sci pt : Bool) (bd wh fr : ByteArray) (p : N.NP) (r : N.NP × Int) (hst : Nst w W rb pb p) (HCU : Hid (CutAt bd 46 wh fr pt)) (c1 : Int) (HC1 : Hid (CntAt fr 46 c1)) (h1 : decide (0 < c1) = true) (hr : r = (N.np0, 4)) :
    Code.wp Try.prog (Nr 5) (bodyPost Try.prog Try.f14 (NPost r w)) ⟨#[v0,v1, .pointer (some ⟨rb, 0, none⟩),v3, .pointer (some ⟨pb, 0, none⟩), .string bd,v6, .bool sci,v8,v9,v10,v11,v12,v13,v14,v15,v16,v17,v18,v19,v20,v21,v22,v23,v24,v25,v26,v27,v28,v29,v30,v31,v32,v33,v34,v35,v36,v37,v38,v39,v40,v41,v42,v43,v44,v45,v46,v47,v48,v49,v50,v51,v52,v53,v54,v55,v56,v57,v58,v59,v60,v61,v62,v63,v64,v65,v66,v67,v68,v69,v70,v71,v72,v73,v74,v75,v76,v77,v78,v79,v80,v81,v82,v83,v84,v85,v86,v87,v88,v89,v90,v91,v92,v93,v94,v95,v96,v97,v98,v99,v100,v101,v102,v103,v104,v105,v106,v107,v108,v109,v110,v111,v112,v113,v114,v115,v116,v117,v118,v119,v120,v121,v122,v123,v124,v125,v126,v127,v128,v129,v130,v131,v132,v133,v134,v135,v136,v137,v138,v139,v140,v141,v142,v143,v144,v145,v146,v147,v148,v149,v150,v151,v152,v153,v154,v155,v156,v157,v158,v159,v160,v161,v162,v163,v164,v165,v166,v167,v168,v169,v170,v171,v172,v173,v174,v175,v176,v177,v178,v179,v180,v181,v182,v183,v184,v185,v186,v187,v188,v189,v190,v191,v192,v193,v194,v195,v196,v197,v198,v199,v200,v201,v202,v203,v204,v205,v206,v207,v208,v209,v210,v211,v212,v213,v214,v215,v216,v217,v218,v219,v220,v221,v222,v223,v224,v225,v226,v227,v228,v229,v230,v231,v232,v233,v234,v235,v236,v237,v238,v239,v240,v241,v242,v243,v244,v245,v246,v247,v248,v249,v250,v251,v252,v253,v254,v255,v256,v257,v258,v259,v260,v261,v262,v263,v264,v265,v266,v267,v268,v269,v270,v271,v272,v273,v274,v275,v276,v277,v278,v279,v280,v281,v282,v283,v284,v285,v286,v287,v288,v289,v290,v291,v292,v293,v294,v295,v296,v297,v298,v299,v300,v301,v302,v303,v304,v305,v306,v307,v308,v309,v310,v311,v312,v313,v314,v315,v316,v317,v318,v319,v320], []⟩ W := by
  subst hr
  have HS0 := Lib.hid hst
  clear hst
  rw [show Nr 5 = .seq (stmtOf 5 nrBody) (.seq (stmtOf 6 nrBody) (.seq (stmtOf 7 nrBody) (Nr 8))) from by kernel_rfl]
  have hz5 : stmtOf 5 nrBody = stmtOf 5 nrBody := rfl
  conv at hz5 => rhs; whnf
  rw [hz5]; clear hz5
  have hz6 : stmtOf 6 nrBody = stmtOf 6 nrBody := rfl
  conv at hz6 => rhs; whnf
  rw [hz6]; clear hz6
  have hz7 : stmtOf 7 nrBody = stmtOf 7 nrBody := rfl
  conv at hz7 => rhs; whnf
  rw [hz7]; clear hz7
  go_wp2_with (first
    | (go_at_call 31; (with_reducible refine (HCU.out _).mono ?_); rintro e W1 ⟨rfl, b1⟩; have HS1 := Lib.hid (HS0.out.step b1); clear b1)
    | (go_at_call 33; (with_reducible refine (HC1.out _).mono ?_); rintro e W2 ⟨rfl, b2⟩; have HST := Lib.hid (HS1.out.step b2); clear b2)
    | ((with_reducible refine gate_store (t := 26) (p := 2) rfl ?_); refine store_new_event rfl rfl rfl rb (patI 0 0 0 0 0 0 0 0 ⟨#[]⟩ false 0 false) _ 26 rfl rfl HST.out.res (by kernel_rfl) rfl (patI_one _ _ _ _ _ _ _ _ _ _ _ _) ?_; intro W9 hW9 hput; have HB9 := Lib.hid (hput.below HST.out.below HST.out.rlo); have HR9 := Lib.hid hW9; clear hput hW9))
  refine bodyPost_ret (results_cell_tmp rfl _ _ rb 26 (patI 0 0 0 0 0 0 0 0 ⟨#[]⟩ false 0 false) (0, 0) _ rfl HR9.out Try.underlying26 rfl (by kernel_rfl)) rfl ?_
  exact ⟨rfl, HB9.out⟩
set_option maxHeartbeats 8000000 in
set_option maxRecDepth 1000000 in
theorem nr5_b (w W : World) (rb pb : Nat) (sci pt : Bool) (bd wh fr : ByteArray) (p : N.NP) (r : N.NP × Int) (hst : Nst w W rb pb p) (HCU : Hid (CutAt bd 46 wh fr pt)) (c1 : Int) (HC1 : Hid (CntAt fr 46 c1)) (h1 : decide (0 < c1) = false) (hpt : pt = true) (hfr : fr.toList.isEmpty = true) (hr : r = (N.np0, 4)) :
    Code.wp Try.prog (Nr 5) (bodyPost Try.prog Try.f14 (NPost r w)) ⟨#[v0,v1, .pointer (some ⟨rb, 0, none⟩),v3, .pointer (some ⟨pb, 0, none⟩), .string bd,v6, .bool sci,v8,v9,v10,v11,v12,v13,v14,v15,v16,v17,v18,v19,v20,v21,v22,v23,v24,v25,v26,v27,v28,v29,v30,v31,v32,v33,v34,v35,v36,v37,v38,v39,v40,v41,v42,v43,v44,v45,v46,v47,v48,v49,v50,v51,v52,v53,v54,v55,v56,v57,v58,v59,v60,v61,v62,v63,v64,v65,v66,v67,v68,v69,v70,v71,v72,v73,v74,v75,v76,v77,v78,v79,v80,v81,v82,v83,v84,v85,v86,v87,v88,v89,v90,v91,v92,v93,v94,v95,v96,v97,v98,v99,v100,v101,v102,v103,v104,v105,v106,v107,v108,v109,v110,v111,v112,v113,v114,v115,v116,v117,v118,v119,v120,v121,v122,v123,v124,v125,v126,v127,v128,v129,v130,v131,v132,v133,v134,v135,v136,v137,v138,v139,v140,v141,v142,v143,v144,v145,v146,v147,v148,v149,v150,v151,v152,v153,v154,v155,v156,v157,v158,v159,v160,v161,v162,v163,v164,v165,v166,v167,v168,v169,v170,v171,v172,v173,v174,v175,v176,v177,v178,v179,v180,v181,v182,v183,v184,v185,v186,v187,v188,v189,v190,v191,v192,v193,v194,v195,v196,v197,v198,v199,v200,v201,v202,v203,v204,v205,v206,v207,v208,v209,v210,v211,v212,v213,v214,v215,v216,v217,v218,v219,v220,v221,v222,v223,v224,v225,v226,v227,v228,v229,v230,v231,v232,v233,v234,v235,v236,v237,v238,v239,v240,v241,v242,v243,v244,v245,v246,v247,v248,v249,v250,v251,v252,v253,v254,v255,v256,v257,v258,v259,v260,v261,v262,v263,v264,v265,v266,v267,v268,v269,v270,v271,v272,v273,v274,v275,v276,v277,v278,v279,v280,v281,v282,v283,v284,v285,v286,v287,v288,v289,v290,v291,v292,v293,v294,v295,v296,v297,v298,v299,v300,v301,v302,v303,v304,v305,v306,v307,v308,v309,v310,v311,v312,v313,v314,v315,v316,v317,v318,v319,v320], []⟩ W := by
  subst hr hpt
  have HS0 := Lib.hid hst
  clear hst
  rw [show Nr 5 = .seq (stmtOf 5 nrBody) (.seq (stmtOf 6 nrBody) (.seq (stmtOf 7 nrBody) (Nr 8))) from by kernel_rfl]
  have hz5 : stmtOf 5 nrBody = stmtOf 5 nrBody := rfl
  conv at hz5 => rhs; whnf
  rw [hz5]; clear hz5
  have hz6 : stmtOf 6 nrBody = stmtOf 6 nrBody := rfl
  conv at hz6 => rhs; whnf
  rw [hz6]; clear hz6
  have hz7 : stmtOf 7 nrBody = stmtOf 7 nrBody := rfl
  conv at hz7 => rhs; whnf
  rw [hz7]; clear hz7
  go_wp2_with (first
    | (go_at_call 31; (with_reducible refine (HCU.out _).mono ?_); rintro e W1 ⟨rfl, b1⟩; have HS1 := Lib.hid (HS0.out.step b1); clear b1)
    | (go_at_call 33; (with_reducible refine (HC1.out _).mono ?_); rintro e W2 ⟨rfl, b2⟩; have HST := Lib.hid (HS1.out.step b2); clear b2)
    | ((with_reducible refine gate_store (t := 26) (p := 2) rfl ?_); refine store_new_event rfl rfl rfl rb (patI 0 0 0 0 0 0 0 0 ⟨#[]⟩ false 0 false) _ 26 rfl rfl HST.out.res (by kernel_rfl) rfl (patI_one _ _ _ _ _ _ _ _ _ _ _ _) ?_; intro W9 hW9 hput; have HB9 := Lib.hid (hput.below HST.out.below HST.out.rlo); have HR9 := Lib.hid hW9; clear hput hW9))
  refine bodyPost_ret (results_cell_tmp rfl _ _ rb 26 (patI 0 0 0 0 0 0 0 0 ⟨#[]⟩ false 0 false) (0, 0) _ rfl HR9.out Try.underlying26 rfl (by kernel_rfl)) rfl ?_
  exact ⟨rfl, HB9.out⟩
set_option maxHeartbeats 8000000 in
set_option maxRecDepth 1000000 in
theorem nr5_c5 (w W : World) (rb pb : Nat) (sci pt : Bool) (bd wh fr : ByteArray) (p : N.NP) (r : N.NP × Int) (hst : Nst w W rb pb p) (HCU : Hid (CutAt bd 46 wh fr pt)) (c1 : Int) (HC1 : Hid (CntAt fr 46 c1)) (h1 : decide (0 < c1) = false) (hpt : pt = false) (c2 : Int) (HC2 : Hid (CntAt fr 44 c2)) (h2 : decide (0 < c2) = true) (hr : r = (N.np0, 5)) :
    Code.wp Try.prog (Nr 5) (bodyPost Try.prog Try.f14 (NPost r w)) ⟨#[v0,v1, .pointer (some ⟨rb, 0, none⟩),v3, .pointer (some ⟨pb, 0, none⟩), .string bd,v6, .bool sci,v8,v9,v10,v11,v12,v13,v14,v15,v16,v17,v18,v19,v20,v21,v22,v23,v24,v25,v26,v27,v28,v29,v30,v31,v32,v33,v34,v35,v36,v37,v38,v39,v40,v41,v42,v43,v44,v45,v46,v47,v48,v49,v50,v51,v52,v53,v54,v55,v56,v57,v58,v59,v60,v61,v62,v63,v64,v65,v66,v67,v68,v69,v70,v71,v72,v73,v74,v75,v76,v77,v78,v79,v80,v81,v82,v83,v84,v85,v86,v87,v88,v89,v90,v91,v92,v93,v94,v95,v96,v97,v98,v99,v100,v101,v102,v103,v104,v105,v106,v107,v108,v109,v110,v111,v112,v113,v114,v115,v116,v117,v118,v119,v120,v121,v122,v123,v124,v125,v126,v127,v128,v129,v130,v131,v132,v133,v134,v135,v136,v137,v138,v139,v140,v141,v142,v143,v144,v145,v146,v147,v148,v149,v150,v151,v152,v153,v154,v155,v156,v157,v158,v159,v160,v161,v162,v163,v164,v165,v166,v167,v168,v169,v170,v171,v172,v173,v174,v175,v176,v177,v178,v179,v180,v181,v182,v183,v184,v185,v186,v187,v188,v189,v190,v191,v192,v193,v194,v195,v196,v197,v198,v199,v200,v201,v202,v203,v204,v205,v206,v207,v208,v209,v210,v211,v212,v213,v214,v215,v216,v217,v218,v219,v220,v221,v222,v223,v224,v225,v226,v227,v228,v229,v230,v231,v232,v233,v234,v235,v236,v237,v238,v239,v240,v241,v242,v243,v244,v245,v246,v247,v248,v249,v250,v251,v252,v253,v254,v255,v256,v257,v258,v259,v260,v261,v262,v263,v264,v265,v266,v267,v268,v269,v270,v271,v272,v273,v274,v275,v276,v277,v278,v279,v280,v281,v282,v283,v284,v285,v286,v287,v288,v289,v290,v291,v292,v293,v294,v295,v296,v297,v298,v299,v300,v301,v302,v303,v304,v305,v306,v307,v308,v309,v310,v311,v312,v313,v314,v315,v316,v317,v318,v319,v320], []⟩ W := by
  subst hr hpt
  have HS0 := Lib.hid hst
  clear hst
  rw [show Nr 5 = .seq (stmtOf 5 nrBody) (.seq (stmtOf 6 nrBody) (.seq (stmtOf 7 nrBody) (Nr 8))) from by kernel_rfl]
  have hz5 : stmtOf 5 nrBody = stmtOf 5 nrBody := rfl
  conv at hz5 => rhs; whnf
  rw [hz5]; clear hz5
  have hz6 : stmtOf 6 nrBody = stmtOf 6 nrBody := rfl
  conv at hz6 => rhs; whnf
  rw [hz6]; clear hz6
  have hz7 : stmtOf 7 nrBody = stmtOf 7 nrBody := rfl
  conv at hz7 => rhs; whnf
  rw [hz7]; clear hz7
  go_wp2_with (first
    | (go_at_call 31; (with_reducible refine (HCU.out _).mono ?_); rintro e W1 ⟨rfl, b1⟩; have HS1 := Lib.hid (HS0.out.step b1); clear b1)
    | (go_at_call 33; (with_reducible refine (HC1.out _).mono ?_); rintro e W2 ⟨rfl, b2⟩; have HS2 := Lib.hid (HS1.out.step b2); clear b2)
    | (go_at_call 33; (with_reducible refine (HC2.out _).mono ?_); rintro e W3 ⟨rfl, b3⟩; have HST := Lib.hid (HS2.out.step b3); clear b3)
    | ((with_reducible refine gate_store (t := 26) (p := 2) rfl ?_); refine store_new_event rfl rfl rfl rb (patI 0 0 0 0 0 0 0 0 ⟨#[]⟩ false 0 false) _ 26 rfl rfl HST.out.res (by kernel_rfl) rfl (patI_one _ _ _ _ _ _ _ _ _ _ _ _) ?_; intro W9 hW9 hput; have HB9 := Lib.hid (hput.below HST.out.below HST.out.rlo); have HR9 := Lib.hid hW9; clear hput hW9))
  refine bodyPost_ret (results_cell_tmp rfl _ _ rb 26 (patI 0 0 0 0 0 0 0 0 ⟨#[]⟩ false 0 false) (0, 0) _ rfl HR9.out Try.underlying26 rfl (by kernel_rfl)) rfl ?_
  exact ⟨rfl, HB9.out⟩
set_option maxHeartbeats 8000000 in
set_option maxRecDepth 1000000 in
theorem nr5_c (w W : World) (rb pb : Nat) (sci pt : Bool) (bd wh fr : ByteArray) (p : N.NP) (r : N.NP × Int) (hst : Nst w W rb pb p) (HCU : Hid (CutAt bd 46 wh fr pt)) (c1 : Int) (HC1 : Hid (CntAt fr 46 c1)) (h1 : decide (0 < c1) = false) (hpt : pt = false) (c2 : Int) (HC2 : Hid (CntAt fr 44 c2)) (h2 : decide (0 < c2) = false) (hr : r = N.g12 p sci pt ((N.splitC 44 (N.L wh)).map List.length) (N.splitC 44 (N.L wh)).flatten (N.L fr)) (hf : pt = false → N.L fr = []) (hz : p.minSig = 0) (hi : p.inc = []) (h9 : wh.size + fr.size ≤ 1000000000) :
    Code.wp Try.prog (Nr 5) (bodyPost Try.prog Try.f14 (NPost r w)) ⟨#[v0,v1, .pointer (some ⟨rb, 0, none⟩),v3, .pointer (some ⟨pb, 0, none⟩), .string bd,v6, .bool sci,v8,v9,v10,v11,v12,v13,v14,v15,v16,v17,v18,v19,v20,v21,v22,v23,v24,v25,v26,v27,v28,v29,v30,v31,v32,v33,v34,v35,v36,v37,v38,v39,v40,v41,v42,v43,v44,v45,v46,v47,v48,v49,v50,v51,v52,v53,v54,v55,v56,v57,v58,v59,v60,v61,v62,v63,v64,v65,v66,v67,v68,v69,v70,v71,v72,v73,v74,v75,v76,v77,v78,v79,v80,v81,v82,v83,v84,v85,v86,v87,v88,v89,v90,v91,v92,v93,v94,v95,v96,v97,v98,v99,v100,v101,v102,v103,v104,v105,v106,v107,v108,v109,v110,v111,v112,v113,v114,v115,v116,v117,v118,v119,v120,v121,v122,v123,v124,v125,v126,v127,v128,v129,v130,v131,v132,v133,v134,v135,v136,v137,v138,v139,v140,v141,v142,v143,v144,v145,v146,v147,v148,v149,v150,v151,v152,v153,v154,v155,v156,v157,v158,v159,v160,v161,v162,v163,v164,v165,v166,v167,v168,v169,v170,v171,v172,v173,v174,v175,v176,v177,v178,v179,v180,v181,v182,v183,v184,v185,v186,v187,v188,v189,v190,v191,v192,v193,v194,v195,v196,v197,v198,v199,v200,v201,v202,v203,v204,v205,v206,v207,v208,v209,v210,v211,v212,v213,v214,v215,v216,v217,v218,v219,v220,v221,v222,v223,v224,v225,v226,v227,v228,v229,v230,v231,v232,v233,v234,v235,v236,v237,v238,v239,v240,v241,v242,v243,v244,v245,v246,v247,v248,v249,v250,v251,v252,v253,v254,v255,v256,v257,v258,v259,v260,v261,v262,v263,v264,v265,v266,v267,v268,v269,v270,v271,v272,v273,v274,v275,v276,v277,v278,v279,v280,v281,v282,v283,v284,v285,v286,v287,v288,v289,v290,v291,v292,v293,v294,v295,v296,v297,v298,v299,v300,v301,v302,v303,v304,v305,v306,v307,v308,v309,v310,v311,v312,v313,v314,v315,v316,v317,v318,v319,v320], []⟩ W := by
  subst hpt
  have HR := Lib.hid hr
  have HF := Lib.hid hf
  have HZ := Lib.hid hz
  have HI := Lib.hid hi
  clear hr hf hz hi
  have HS0 := Lib.hid hst
  clear hst
  rw [show Nr 5 = .seq (stmtOf 5 nrBody) (.seq (stmtOf 6 nrBody) (.seq (stmtOf 7 nrBody) (Nr 8))) from by kernel_rfl]
  have hz5 : stmtOf 5 nrBody = stmtOf 5 nrBody := rfl
  conv at hz5 => rhs; whnf
  rw [hz5]; clear hz5
  have hz6 : stmtOf 6 nrBody = stmtOf 6 nrBody := rfl
  conv at hz6 => rhs; whnf
  rw [hz6]; clear hz6
  have hz7 : stmtOf 7 nrBody = stmtOf 7 nrBody := rfl
  conv at hz7 => rhs; whnf
  rw [hz7]; clear hz7
  go_wp2_with (first
    | (go_at_call 31; (with_reducible refine (HCU.out _).mono ?_); rintro e W1 ⟨rfl, b1⟩; have HS1 := Lib.hid (HS0.out.step b1); clear b1)
    | (go_at_call 33; (with_reducible refine (HC1.out _).mono ?_); rintro e W2 ⟨rfl, b2⟩; have HS2 := Lib.hid (HS1.out.step b2); clear b2)
    | (go_at_call 33; (with_reducible refine (HC2.out _).mono ?_); rintro e W3 ⟨rfl, b3⟩; have HS3 := Lib.hid (HS2.out.step b3); clear b3))
  exact nr8 w W3 rb pb wh.size sci _ wh fr p r rfl HR.out (fun h => HF.out (by first | exact h | trivial)) HZ.out HI.out h9 HS3.out
set_option maxHeartbeats 8000000 in
set_option maxRecDepth 1000000 in
theorem nr5_d5 (w W : World) (rb pb : Nat) (sci pt : Bool) (bd wh fr : ByteArray) (p : N.NP) (r : N.NP × Int) (hst : Nst w W rb pb p) (HCU : Hid (CutAt bd 46 wh fr pt)) (c1 : Int) (HC1 : Hid (CntAt fr 46 c1)) (h1 : decide (0 < c1) = false) (hpt : pt = true) (hfr : fr.toList.isEmpty = false) (c2 : Int) (HC2 : Hid (CntAt fr 44 c2)) (h2 : decide (0 < c2) = true) (hr : r = (N.np0, 5)) :
    Code.wp Try.prog (Nr 5) (bodyPost Try.prog Try.f14 (NPost r w)) ⟨#[v0,v1, .pointer (some ⟨rb, 0, none⟩),v3, .pointer (some ⟨pb, 0, none⟩), .string bd,v6, .bool sci,v8,v9,v10,v11,v12,v13,v14,v15,v16,v17,v18,v19,v20,v21,v22,v23,v24,v25,v26,v27,v28,v29,v30,v31,v32,v33,v34,v35,v36,v37,v38,v39,v40,v41,v42,v43,v44,v45,v46,v47,v48,v49,v50,v51,v52,v53,v54,v55,v56,v57,v58,v59,v60,v61,v62,v63,v64,v65,v66,v67,v68,v69,v70,v71,v72,v73,v74,v75,v76,v77,v78,v79,v80,v81,v82,v83,v84,v85,v86,v87,v88,v89,v90,v91,v92,v93,v94,v95,v96,v97,v98,v99,v100,v101,v102,v103,v104,v105,v106,v107,v108,v109,v110,v111,v112,v113,v114,v115,v116,v117,v118,v119,v120,v121,v122,v123,v124,v125,v126,v127,v128,v129,v130,v131,v132,v133,v134,v135,v136,v137,v138,v139,v140,v141,v142,v143,v144,v145,v146,v147,v148,v149,v150,v151,v152,v153,v154,v155,v156,v157,v158,v159,v160,v161,v162,v163,v164,v165,v166,v167,v168,v169,v170,v171,v172,v173,v174,v175,v176,v177,v178,v179,v180,v181,v182,v183,v184,v185,v186,v187,v188,v189,v190,v191,v192,v193,v194,v195,v196,v197,v198,v199,v200,v201,v202,v203,v204,v205,v206,v207,v208,v209,v210,v211,v212,v213,v214,v215,v216,v217,v218,v219,v220,v221,v222,v223,v224,v225,v226,v227,v228,v229,v230,v231,v232,v233,v234,v235,v236,v237,v238,v239,v240,v241,v242,v243,v244,v245,v246,v247,v248,v249,v250,v251,v252,v253,v254,v255,v256,v257,v258,v259,v260,v261,v262,v263,v264,v265,v266,v267,v268,v269,v270,v271,v272,v273,v274,v275,v276,v277,v278,v279,v280,v281,v282,v283,v284,v285,v286,v287,v288,v289,v290,v291,v292,v293,v294,v295,v296,v297,v298,v299,v300,v301,v302,v303,v304,v305,v306,v307,v308,v309,v310,v311,v312,v313,v314,v315,v316,v317,v318,v319,v320], []⟩ W := by
  subst hr hpt
  have HS0 := Lib.hid hst
  clear hst
  rw [show Nr 5 = .seq (stmtOf 5 nrBody) (.seq (stmtOf 6 nrBody) (.seq (stmtOf 7 nrBody) (Nr 8))) from by kernel_rfl]
  have hz5 : stmtOf 5 nrBody = stmtOf 5 nrBody := rfl
  conv at hz5 => rhs; whnf
  rw [hz5]; clear hz5
  have hz6 : stmtOf 6 nrBody = stmtOf 6 nrBody := rfl
  conv at hz6 => rhs; whnf
  rw [hz6]; clear hz6
  have hz7 : stmtOf 7 nrBody = stmtOf 7 nrBody := rfl
  conv at hz7 => rhs; whnf
  rw [hz7]; clear hz7
  go_wp2_with (first
    | (go_at_call 31; (with_reducible refine (HCU.out _).mono ?_); rintro e W1 ⟨rfl, b1⟩; have HS1 := Lib.hid (HS0.out.step b1); clear b1)
    | (go_at_call 33; (with_reducible refine (HC1.out _).mono ?_); rintro e W2 ⟨rfl, b2⟩; have HS2 := Lib.hid (HS1.out.step b2); clear b2)
    | (go_at_call 33; (with_reducible refine (HC2.out _).mono ?_); rintro e W3 ⟨rfl, b3⟩; have HST := Lib.hid (HS2.out.step b3); clear b3)
    | ((with_reducible refine gate_store (t := 26) (p := 2) rfl ?_); refine store_new_event rfl rfl rfl rb (patI 0 0 0 0 0 0 0 0 ⟨#[]⟩ false 0 false) _ 26 rfl rfl HST.out.res (by kernel_rfl) rfl (patI_one _ _ _ _ _ _ _ _ _ _ _ _) ?_; intro W9 hW9 hput; have HB9 := Lib.hid (hput.below HST.out.below HST.out.rlo); have HR9 := Lib.hid hW9; clear hput hW9))
  refine bodyPost_ret (results_cell_tmp rfl _ _ rb 26 (patI 0 0 0 0 0 0 0 0 ⟨#[]⟩ false 0 false) (0, 0) _ rfl HR9.out Try.underlying26 rfl (by kernel_rfl)) rfl ?_
  exact ⟨rfl, HB9.out⟩
set_option maxHeartbeats 8000000 in
set_option maxRecDepth 1000000 in
theorem nr5_d (w W : World) (rb pb : Nat) (sci pt : Bool) (bd wh fr : ByteArray) (p : N.NP) (r : N.NP × Int) (hst : Nst w W rb pb p) (HCU : Hid (CutAt bd 46 wh fr pt)) (c1 : Int) (HC1 : Hid (CntAt fr 46 c1)) (h1 : decide (0 < c1) = false) (hpt : pt = true) (hfr : fr.toList.isEmpty = false) (c2 : Int) (HC2 : Hid (CntAt fr 44 c2)) (h2 : decide (0 < c2) = false) (hr : r = N.g12 p sci pt ((N.splitC 44 (N.L wh)).map List.length) (N.splitC 44 (N.L wh)).flatten (N.L fr)) (hf : pt = false → N.L fr = []) (hz : p.minSig = 0) (hi : p.inc = []) (h9 : wh.size + fr.size ≤ 1000000000) :
    Code.wp Try.prog (Nr 5) (bodyPost Try.prog Try.f14 (NPost r w)) ⟨#[v0,v1, .pointer (some ⟨rb, 0, none⟩),v3, .pointer (some ⟨pb, 0, none⟩), .string bd,v6, .bool sci,v8,v9,v10,v11,v12,v13,v14,v15,v16,v17,v18,v19,v20,v21,v22,v23,v24,v25,v26,v27,v28,v29,v30,v31,v32,v33,v34,v35,v36,v37,v38,v39,v40,v41,v42,v43,v44,v45,v46,v47,v48,v49,v50,v51,v52,v53,v54,v55,v56,v57,v58,v59,v60,v61,v62,v63,v64,v65,v66,v67,v68,v69,v70,v71,v72,v73,v74,v75,v76,v77,v78,v79,v80,v81,v82,v83,v84,v85,v86,v87,v88,v89,v90,v91,v92,v93,v94,v95,v96,v97,v98,v99,v100,v101,v102,v103,v104,v105,v106,v107,v108,v109,v110,v111,v112,v113,v114,v115,v116,v117,v118,v119,v120,v121,v122,v123,v124,v125,v126,v127,v128,v129,v130,v131,v132,v133,v134,v135,v136,v137,v138,v139,v140,v141,v142,v143,v144,v145,v146,v147,v148,v149,v150,v151,v152,v153,v154,v155,v156,v157,v158,v159,v160,v161,v162,v163,v164,v165,v166,v167,v168,v169,v170,v171,v172,v173,v174,v175,v176,v177,v178,v179,v180,v181,v182,v183,v184,v185,v186,v187,v188,v189,v190,v191,v192,v193,v194,v195,v196,v197,v198,v199,v200,v201,v202,v203,v204,v205,v206,v207,v208,v209,v210,v211,v212,v213,v214,v215,v216,v217,v218,v219,v220,v221,v222,v223,v224,v225,v226,v227,v228,v229,v230,v231,v232,v233,v234,v235,v236,v237,v238,v239,v240,v241,v242,v243,v244,v245,v246,v247,v248,v249,v250,v251,v252,v253,v254,v255,v256,v257,v258,v259,v260,v261,v262,v263,v264,v265,v266,v267,v268,v269,v270,v271,v272,v273,v274,v275,v276,v277,v278,v279,v280,v281,v282,v283,v284,v285,v286,v287,v288,v289,v290,v291,v292,v293,v294,v295,v296,v297,v298,v299,v300,v301,v302,v303,v304,v305,v306,v307,v308,v309,v310,v311,v312,v313,v314,v315,v316,v317,v318,v319,v320], []⟩ W := by
  subst hpt
  have HR := Lib.hid hr
  have HF := Lib.hid hf
  have HZ := Lib.hid hz
  have HI := Lib.hid hi
  clear hr hf hz hi
  have HS0 := Lib.hid hst
  clear hst
  rw [show Nr 5 = .seq (stmtOf 5 nrBody) (.seq (stmtOf 6 nrBody) (.seq (stmtOf 7 nrBody) (Nr 8))) from by kernel_rfl]
  have hz5 : stmtOf 5 nrBody = stmtOf 5 nrBody := rfl
  conv at hz5 => rhs; whnf
  rw [hz5]; clear hz5
  have hz6 : stmtOf 6 nrBody = stmtOf 6 nrBody := rfl
  conv at hz6 => rhs; whnf
  rw [hz6]; clear hz6
  have hz7 : stmtOf 7 nrBody = stmtOf 7 nrBody := rfl
  conv at hz7 => rhs; whnf
  rw [hz7]; clear hz7
  go_wp2_with (first
    | (go_at_call 31; (with_reducible refine (HCU.out _).mono ?_); rintro e W1 ⟨rfl, b1⟩; have HS1 := Lib.hid (HS0.out.step b1); clear b1)
    | (go_at_call 33; (with_reducible refine (HC1.out _).mono ?_); rintro e W2 ⟨rfl, b2⟩; have HS2 := Lib.hid (HS1.out.step b2); clear b2)
    | (go_at_call 33; (with_reducible refine (HC2.out _).mono ?_); rintro e W3 ⟨rfl, b3⟩; have HS3 := Lib.hid (HS2.out.step b3); clear b3))
  exact nr8 w W3 rb pb wh.size sci _ wh fr p r rfl HR.out (fun h => HF.out (by first | exact h | trivial)) HZ.out HI.out h9 HS3.out
/-- The stage of the parts, whole. -/
theorem nr5 (w W : World) (rb pb : Nat) (sci : Bool) (bd : ByteArray) (p : N.NP) (r : N.NP × Int) (hr : r = N.g5 p sci (N.L bd)) (hz : p.minSig = 0) (hi : p.inc = []) (h9 : bd.size ≤ 1000000000) (hst : Nst w W rb pb p) :
    Code.wp Try.prog (Nr 5) (bodyPost Try.prog Try.f14 (NPost r w)) ⟨#[v0,v1, .pointer (some ⟨rb, 0, none⟩),v3, .pointer (some ⟨pb, 0, none⟩), .string bd,v6, .bool sci,v8,v9,v10,v11,v12,v13,v14,v15,v16,v17,v18,v19,v20,v21,v22,v23,v24,v25,v26,v27,v28,v29,v30,v31,v32,v33,v34,v35,v36,v37,v38,v39,v40,v41,v42,v43,v44,v45,v46,v47,v48,v49,v50,v51,v52,v53,v54,v55,v56,v57,v58,v59,v60,v61,v62,v63,v64,v65,v66,v67,v68,v69,v70,v71,v72,v73,v74,v75,v76,v77,v78,v79,v80,v81,v82,v83,v84,v85,v86,v87,v88,v89,v90,v91,v92,v93,v94,v95,v96,v97,v98,v99,v100,v101,v102,v103,v104,v105,v106,v107,v108,v109,v110,v111,v112,v113,v114,v115,v116,v117,v118,v119,v120,v121,v122,v123,v124,v125,v126,v127,v128,v129,v130,v131,v132,v133,v134,v135,v136,v137,v138,v139,v140,v141,v142,v143,v144,v145,v146,v147,v148,v149,v150,v151,v152,v153,v154,v155,v156,v157,v158,v159,v160,v161,v162,v163,v164,v165,v166,v167,v168,v169,v170,v171,v172,v173,v174,v175,v176,v177,v178,v179,v180,v181,v182,v183,v184,v185,v186,v187,v188,v189,v190,v191,v192,v193,v194,v195,v196,v197,v198,v199,v200,v201,v202,v203,v204,v205,v206,v207,v208,v209,v210,v211,v212,v213,v214,v215,v216,v217,v218,v219,v220,v221,v222,v223,v224,v225,v226,v227,v228,v229,v230,v231,v232,v233,v234,v235,v236,v237,v238,v239,v240,v241,v242,v243,v244,v245,v246,v247,v248,v249,v250,v251,v252,v253,v254,v255,v256,v257,v258,v259,v260,v261,v262,v263,v264,v265,v266,v267,v268,v269,v270,v271,v272,v273,v274,v275,v276,v277,v278,v279,v280,v281,v282,v283,v284,v285,v286,v287,v288,v289,v290,v291,v292,v293,v294,v295,v296,v297,v298,v299,v300,v301,v302,v303,v304,v305,v306,v307,v308,v309,v310,v311,v312,v313,v314,v315,v316,v317,v318,v319,v320], []⟩ W := by
  have HCU := Lib.hid (cut_at bd 46 h9)
  have hlen := N.cut_len 46 (N.L bd)
  have his := (N.cutC_is 46 (N.L bd)).2
  unfold N.g5 at hr
  revert hr HCU hlen his
  generalize N.cutC 46 (N.L bd) = cc
  obtain ⟨wl, fl, pt⟩ := cc
  intro hr HCU hlen his
  simp only at hr HCU hlen his
  have hf : pt = false → N.L (mkB fl) = [] := fun e => by
    rw [if_neg (by rw [e]; decide)] at his
    rw [L_mkB]; exact his.2
  rw [N.L_len] at hlen
  have h9w : (mkB wl).size + (mkB fl).size ≤ 1000000000 := by
    rw [mkB_size, mkB_size]
    cases pt with
    | true => rw [if_pos rfl] at hlen; omega
    | false =>
      have h0 := hf rfl
      rw [L_mkB] at h0
      rw [if_neg (by decide)] at hlen
      rw [h0]
      simp only [List.length_nil]
      omega
  have HC1 := Lib.hid (cnt_at (mkB fl) 46 (by decide) (by omega))
  have HC2 := Lib.hid (cnt_at (mkB fl) 44 (by decide) (by omega))
  rw [L_mkB] at HC1 HC2
  have hr8 : N.g12 p sci pt ((N.splitC 44 wl).map List.length) (N.splitC 44 wl).flatten fl = N.g12 p sci pt ((N.splitC 44 (N.L (mkB wl))).map List.length) (N.splitC 44 (N.L (mkB wl))).flatten (N.L (mkB fl)) := by rw [L_mkB, L_mkB]
  by_cases h1 : 0 < fl.count 46
  · rw [if_pos (.inl h1)] at hr
    exact nr5_a w W rb pb sci pt bd _ _ p r hst HCU _ HC1 (by rw [dec_pos]; exact decide_eq_true h1) hr
  have hd1 : decide (0 < ((fl.count 46 : Nat) : Int)) = false := by rw [dec_pos]; exact decide_eq_false h1
  by_cases h2 : pt = true ∧ fl = []
  · rw [if_pos (.inr h2)] at hr
    exact nr5_b w W rb pb sci pt bd _ _ p r hst HCU _ HC1 hd1 h2.1 (by rw [isE_iff, L_mkB]; exact decide_eq_true h2.2) hr
  rw [if_neg (by rintro (h | h); exact h1 h; exact h2 h)] at hr
  by_cases h3 : 0 < fl.count 44
  · rw [if_pos h3] at hr
    have hd2 : decide (0 < ((fl.count 44 : Nat) : Int)) = true := by rw [dec_pos]; exact decide_eq_true h3
    cases pt with
    | false => exact nr5_c5 w W rb pb sci false bd _ _ p r hst HCU _ HC1 hd1 rfl _ HC2 hd2 hr
    | true => exact nr5_d5 w W rb pb sci true bd _ _ p r hst HCU _ HC1 hd1 rfl (by rw [isE_iff, L_mkB]; exact decide_eq_false (fun h => h2 ⟨rfl, h⟩)) _ HC2 hd2 hr
  · rw [if_neg h3, hr8] at hr
    have hd2 : decide (0 < ((fl.count 44 : Nat) : Int)) = false := by rw [dec_pos]; exact decide_eq_false h3
    cases pt with
    | false => exact nr5_c w W rb pb sci false bd _ _ p r hst HCU _ HC1 hd1 rfl _ HC2 hd2 hr hf hz hi h9w
    | true => exact nr5_d w W rb pb sci true bd _ _ p r hst HCU _ HC1 hd1 rfl (by rw [isE_iff, L_mkB]; exact decide_eq_false (fun h => h2 ⟨rfl, h⟩)) _ HC2 hd2 hr hf hz hi h9w
/- The reference's Number: no odd byte; and the call, whole. -/

theorem odd_no {b : UInt8} (h : N.odd b = false) : b = 35 ∨ b = 64 ∨ b = 44 ∨ b = 46 ∨ (48 ≤ b.toNat ∧ b.toNat ≤ 57) := by
  unfold N.odd N.dig at h
  by_cases h1 : 48 ≤ b.toNat ∧ b.toNat ≤ 57
  · exact .inr (.inr (.inr (.inr h1)))
  · by_cases e1 : b = 35
    · exact .inl e1
    · by_cases e2 : b = 64
      · exact .inr (.inl e2)
      · by_cases e3 : b = 44
        · exact .inr (.inr (.inl e3))
        · by_cases e4 : b = 46
          · exact .inr (.inr (.inr (.inl e4)))
          · exfalso
            simp [e1, e2, e3, e4] at h
            omega
theorem odd_int {b : UInt8} {x : Int} (hx : (b.toNat : Int) = x) (h : N.odd b = false) : x = 35 ∨ x = 64 ∨ x = 44 ∨ x = 46 ∨ (¬ x = 35 ∧ ¬ x = 64 ∧ ¬ x = 44 ∧ ¬ x = 46 ∧ decide (x < 48) = false ∧ decide (57 < x) = false) := by
  rcases odd_no h with e | e | e | e | ⟨e1, e2⟩
  · subst e; exact .inl hx.symm
  · subst e; exact .inr (.inl hx.symm)
  · subst e; exact .inr (.inr (.inl hx.symm))
  · subst e; exact .inr (.inr (.inr (.inl hx.symm)))
  · exact .inr (.inr (.inr (.inr ⟨by omega, by omega, by omega, by omega, decide_eq_false (by omega), decide_eq_false (by omega)⟩)))
theorem odd_yes {b : UInt8} {x : Int} (hx : (b.toNat : Int) = x) (h : N.odd b = true) : ¬ x = 35 ∧ ¬ x = 64 ∧ ¬ x = 44 ∧ ¬ x = 46 ∧ (decide (x < 48) = true ∨ decide (x < 48) = false ∧ decide (57 < x) = true) := by
  unfold N.odd N.dig at h
  have ne : ∀ c : UInt8, ¬ b = c → ¬ x = (c.toNat : Int) := fun c hc e => hc (UInt8.toNat_inj.1 (by omega))
  simp only [Bool.and_eq_true, Bool.not_eq_true', Bool.or_eq_false_iff, beq_eq_false_iff_ne, ne_eq, Bool.and_eq_false_iff, decide_eq_false_iff_not] at h
  obtain ⟨h1, ⟨⟨⟨n1, n2⟩, n3⟩, n4⟩⟩ := h
  refine ⟨ne 35 n1, ne 64 n2, ne 44 n3, ne 46 n4, ?_⟩
  by_cases h48 : x < 48
  · exact .inl (decide_eq_true h48)
  · refine .inr ⟨decide_eq_false h48, decide_eq_true ?_⟩
    rcases h1 with h1 | h1
    · omega
    · omega
set_option maxHeartbeats 8000000 in
set_option maxRecDepth 1000000 in
theorem nr4 (w W : World) (rb pb n : Nat) (sci : Bool) (bd : ByteArray) (p : N.NP) (r : N.NP × Int) (hn : bd.size = n) (hr : r = N.g4 p sci (N.L bd)) (hz : p.minSig = 0) (hi : p.inc = []) (h9 : n ≤ 1000000000) (hst : Nst w W rb pb p) :
    Code.wp Try.prog (Nr 4) (bodyPost Try.prog Try.f14 (NPost r w)) ⟨#[v0,v1, .pointer (some ⟨rb, 0, none⟩),v3, .pointer (some ⟨pb, 0, none⟩), .string bd,v6, .bool sci,v8,v9,v10,v11,v12,v13,v14,v15,v16,v17,v18,v19,v20,v21,v22,v23,v24,v25,v26,v27,v28,v29,v30,v31,v32,v33,v34,v35,v36,v37,v38,v39,v40,v41,v42,v43,v44,v45,v46,v47,v48,v49,v50,v51,v52,v53,v54,v55,v56,v57,v58,v59,v60,v61,v62,v63,v64,v65,v66,v67,v68,v69,v70,v71,v72,v73,v74,v75,v76,v77,v78,v79,v80,v81,v82,v83,v84,v85,v86,v87,v88,v89,v90,v91,v92,v93,v94,v95,v96,v97,v98,v99,v100,v101,v102,v103,v104,v105,v106,v107,v108,v109,v110,v111,v112,v113,v114,v115,v116,v117,v118,v119,v120,v121,v122,v123,v124,v125,v126,v127,v128,v129,v130,v131,v132,v133,v134,v135,v136,v137,v138,v139,v140,v141,v142,v143,v144,v145,v146,v147,v148,v149,v150,v151,v152,v153,v154,v155,v156,v157,v158,v159,v160,v161,v162,v163,v164,v165,v166,v167,v168,v169,v170,v171,v172,v173,v174,v175,v176,v177,v178,v179,v180,v181,v182,v183,v184,v185,v186,v187,v188,v189,v190,v191,v192,v193,v194,v195,v196,v197,v198,v199,v200,v201,v202,v203,v204,v205,v206,v207,v208,v209,v210,v211,v212,v213,v214,v215,v216,v217,v218,v219,v220,v221,v222,v223,v224,v225,v226,v227,v228,v229,v230,v231,v232,v233,v234,v235,v236,v237,v238,v239,v240,v241,v242,v243,v244,v245,v246,v247,v248,v249,v250,v251,v252,v253,v254,v255,v256,v257,v258,v259,v260,v261,v262,v263,v264,v265,v266,v267,v268,v269,v270,v271,v272,v273,v274,v275,v276,v277,v278,v279,v280,v281,v282,v283,v284,v285,v286,v287,v288,v289,v290,v291,v292,v293,v294,v295,v296,v297,v298,v299,v300,v301,v302,v303,v304,v305,v306,v307,v308,v309,v310,v311,v312,v313,v314,v315,v316,v317,v318,v319,v320], []⟩ W := by
  have HS0 := Lib.hid hst
  have HR := Lib.hid hr
  have HZ := Lib.hid hz
  have HI := Lib.hid hi
  clear hst hr hz hi
  rw [show Nr 4 = .seq (stmtOf 4 nrBody) (Nr 5) from by kernel_rfl]
  have hz4 : stmtOf 4 nrBody = stmtOf 4 nrBody := rfl
  conv at hz4 => rhs; whnf
  rw [hz4]; clear hz4
  go_wp2
  go_loopw [8] (fun v8 wr => ∃ i : Nat, v8 = .int .i64 (i : Int) ∧ i ≤ n ∧ Hid (((N.L bd).take i).any N.odd = false) ∧ wr = W) (fun v8 wr => n - (RowKit.intOf v8).toNat)
  case atStart => exact ⟨0, rfl, by omega, Lib.hid rfl, rfl⟩
  case round =>
    obtain ⟨i, rfl, hi, HA, hwr⟩ := hrel
    subst hwr
    by_cases hi2 : i < n
    · have hib : i < bd.size := by omega
      obtain ⟨x, hx⟩ : ∃ x : Int, ((bd[i]'hib).toNat : Int) = x := ⟨_, rfl⟩
      have ht := take_one bd i hib
      cases ho : N.odd (bd[i]'hib) with
      | true =>
        have hr4 : r = (N.np0, 4) := by
          rw [HR.out]
          unfold N.g4
          rw [if_pos]
          rw [List.any_eq_true]
          exact ⟨bd[i]'hib, List.getElem_mem (by rw [N.L_len]; exact hib), ho⟩
        subst hr4
        have HST := HS0
        obtain ⟨n1, n2, n3, n4, n5⟩ := odd_yes hx ho
        have m1 : (x != 35) = true := bne_iff_ne.2 n1
        have m2 : (x != 64) = true := bne_iff_ne.2 n2
        have m3 : (x != 44) = true := bne_iff_ne.2 n3
        have m4 : (x != 46) = true := bne_iff_ne.2 n4
        clear ho HR ht
        rcases n5 with n5 | ⟨n5, n6⟩
        · go_wp2_with (((with_reducible refine gate_store (t := 26) (p := 2) rfl ?_); refine store_new_event rfl rfl rfl rb (patI 0 0 0 0 0 0 0 0 ⟨#[]⟩ false 0 false) _ 26 rfl rfl HST.out.res (by kernel_rfl) rfl (patI_one _ _ _ _ _ _ _ _ _ _ _ _) ?_; intro W9 hW9 hput; have HB9 := Lib.hid (hput.below HST.out.below HST.out.rlo); have HR9 := Lib.hid hW9; clear hput hW9))
          refine bodyPost_ret (results_cell_tmp rfl _ _ rb 26 (patI 0 0 0 0 0 0 0 0 ⟨#[]⟩ false 0 false) (0, 0) _ rfl HR9.out Try.underlying26 rfl (by kernel_rfl)) rfl ?_
          exact ⟨rfl, HB9.out⟩
        · go_wp2_with (((with_reducible refine gate_store (t := 26) (p := 2) rfl ?_); refine store_new_event rfl rfl rfl rb (patI 0 0 0 0 0 0 0 0 ⟨#[]⟩ false 0 false) _ 26 rfl rfl HST.out.res (by kernel_rfl) rfl (patI_one _ _ _ _ _ _ _ _ _ _ _ _) ?_; intro W9 hW9 hput; have HB9 := Lib.hid (hput.below HST.out.below HST.out.rlo); have HR9 := Lib.hid hW9; clear hput hW9))
          refine bodyPost_ret (results_cell_tmp rfl _ _ rb 26 (patI 0 0 0 0 0 0 0 0 ⟨#[]⟩ false 0 false) (0, 0) _ rfl HR9.out Try.underlying26 rfl (by kernel_rfl)) rfl ?_
          exact ⟨rfl, HB9.out⟩
      | false =>
        have HA2 : Hid (((N.L bd).take (i + 1)).any N.odd = false) := Lib.hid (by rw [ht, List.any_append, HA.out]; simp [ho])
        have hcases := odd_int hx ho
        clear ho ht
        rcases hcases with rfl | rfl | rfl | rfl | ⟨n1, n2, n3, n4, n5, n6⟩
        all_goals
          go_wp2
          go_roundw
          case rel => exact ⟨i + 1, by go_num, by omega, HA2, by trivial⟩
          case measure => simp [RowKit.intOf] <;> omega
    · obtain rfl : i = n := by omega
      go_wp2
      refine nr5 w wr rb pb sci bd p r ?_ HZ.out HI.out (by omega) HS0.out
      rw [HR.out]
      unfold N.g4
      have := HA.out
      rw [List.take_of_length_le (by rw [N.L_len]; omega)] at this
      rw [if_neg (by rw [this]; decide)]
/- The reference's Number: the exponent, and the call, whole. -/

set_option maxHeartbeats 8000000 in
set_option maxRecDepth 1000000 in
theorem nr0_a (s bd ex : ByteArray) (w : World) (r : N.NP × Int) (HCUT : Hid (CutAt s 69 bd ex false)) (hr : r = N.g4 N.np0 false (N.L bd)) (h9 : bd.size ≤ 1000000000) :
    Calls Try.prog 14 #[.string s] w (NPost r w) := by
  have HR := Lib.hid hr
  clear hr
  have HA := heap_alloc_new w (.cells (patI 0 0 0 0 0 0 0 0 ⟨#[]⟩ false 0 false) 26 (0, 0))
  have HBV := Lib.hid ((Below.refl w.heap.size w).alloc (Nat.le_refl _) (.cells (patI 0 0 0 0 0 0 0 0 ⟨#[]⟩ false 0 false) 26 (0, 0)))
  obtain ⟨V, hV⟩ : ∃ V, V = w.alloc (.cells (patI 0 0 0 0 0 0 0 0 ⟨#[]⟩ false 0 false) 26 (0, 0)) := ⟨_, rfl⟩
  rw [← hV] at HA HBV
  have HAV := Lib.hid HA
  have hvw := hV.symm
  unfold patI at hvw
  clear HA hV
  refine calls_of_wp (c := Nr 0) Try.func14 (by kernel_rfl) ?_
  simp only [Try.ntmps14, List.size_toArray, List.length_cons, List.length_nil, Nat.reduceAdd, Nat.reduceSub, Array.replicate_succ, Array.replicate_zero, List.push_toArray, List.append_toArray, List.nil_append, List.cons_append]
  rw [show Nr 0 = .seq (stmtOf 0 nrBody) (.seq (stmtOf 1 nrBody) (.seq (stmtOf 2 nrBody) (.seq (stmtOf 3 nrBody) (Nr 4)))) from by kernel_rfl]
  have hz0 : stmtOf 0 nrBody = stmtOf 0 nrBody := rfl
  conv at hz0 => rhs; whnf
  rw [hz0]; clear hz0
  have hz1 : stmtOf 1 nrBody = stmtOf 1 nrBody := rfl
  conv at hz1 => rhs; whnf
  rw [hz1]; clear hz1
  have hz2 : stmtOf 2 nrBody = stmtOf 2 nrBody := rfl
  conv at hz2 => rhs; whnf
  rw [hz2]; clear hz2
  have hz3 : stmtOf 3 nrBody = stmtOf 3 nrBody := rfl
  conv at hz3 => rhs; whnf
  rw [hz3]; clear hz3
  go_wp2_with (first
    | (go_at_call 31; (with_reducible refine (HCUT.out _).mono ?_); rintro e W2 ⟨rfl, b2⟩; have hs2 := HS1.out.step b2; have p16 : W2.cell? ⟨V.heap.size, 16, none⟩ = some (.bool false) := hs2.cell 16; have pfz := hs2.frozen; have HS2 := Lib.hid hs2; clear b2 hs2)
    | ((with_reducible refine gate_store (t := 26) (p := 4) rfl ?_); refine store_new_event rfl rfl rfl V.heap.size (patI 0 0 0 0 0 0 0 0 ⟨#[]⟩ false 0 false) _ 26 rfl rfl (heap_alloc_new V _) (by kernel_rfl) rfl (patI_one _ _ _ _ _ _ _ _ _ _ _ _) ?_; intro W1 hW1 hput; have HS1 : Hid (Nst w W1 w.heap.size V.heap.size N.np0) := Lib.hid ⟨hput.below (HBV.out.alloc HBV.out.size _) HBV.out.size, Nat.le_refl _, HBV.out.size, Nat.ne_of_lt (blk_lt HAV.out), hput.other (blk_alloc HAV.out _) (Nat.ne_of_lt (blk_lt HAV.out)), hW1⟩; clear hput hW1))
  exact nr4 w W2 _ _ bd.size false bd N.np0 r rfl HR.out rfl rfl h9 HS2.out
set_option maxHeartbeats 8000000 in
set_option maxRecDepth 1000000 in
theorem nr0_b (s bd ex xx st : ByteArray) (w : World) (r : N.NP × Int) (HCUT : Hid (CutAt s 69 bd ex true)) (hxx : ex = xx) (h1 : 0 < ex.size) (h2 : ((ex[0]'h1).toNat : Int) ≠ 43) (h3 : xx.toList.isEmpty = false) (h4 : st.toList.isEmpty = true) (n9 : Nat) (hn9 : xx.size = n9) (h99 : decide ((9 : Int) < (n9 : Int)) = false) (HSTR : Hid (StripAt xx st)) (hr : r = N.g4 { N.np0 with sci := true, minExp := n9, plus := false } true (N.L bd)) (h9 : bd.size ≤ 1000000000) :
    Calls Try.prog 14 #[.string s] w (NPost r w) := by
  subst hxx
  have h5 : (((ex[0]'h1).toNat : Int) == 43) = false := beq_eq_false_iff_ne.2 h2
  have HR := Lib.hid hr
  clear hr h2
  have HA := heap_alloc_new w (.cells (patI 0 0 0 0 0 0 0 0 ⟨#[]⟩ false 0 false) 26 (0, 0))
  have HBV := Lib.hid ((Below.refl w.heap.size w).alloc (Nat.le_refl _) (.cells (patI 0 0 0 0 0 0 0 0 ⟨#[]⟩ false 0 false) 26 (0, 0)))
  obtain ⟨V, hV⟩ : ∃ V, V = w.alloc (.cells (patI 0 0 0 0 0 0 0 0 ⟨#[]⟩ false 0 false) 26 (0, 0)) := ⟨_, rfl⟩
  rw [← hV] at HA HBV
  have HAV := Lib.hid HA
  have hvw := hV.symm
  unfold patI at hvw
  clear HA hV
  refine calls_of_wp (c := Nr 0) Try.func14 (by kernel_rfl) ?_
  simp only [Try.ntmps14, List.size_toArray, List.length_cons, List.length_nil, Nat.reduceAdd, Nat.reduceSub, Array.replicate_succ, Array.replicate_zero, List.push_toArray, List.append_toArray, List.nil_append, List.cons_append]
  rw [show Nr 0 = .seq (stmtOf 0 nrBody) (.seq (stmtOf 1 nrBody) (.seq (stmtOf 2 nrBody) (.seq (stmtOf 3 nrBody) (Nr 4)))) from by kernel_rfl]
  have hz0 : stmtOf 0 nrBody = stmtOf 0 nrBody := rfl
  conv at hz0 => rhs; whnf
  rw [hz0]; clear hz0
  have hz1 : stmtOf 1 nrBody = stmtOf 1 nrBody := rfl
  conv at hz1 => rhs; whnf
  rw [hz1]; clear hz1
  have hz2 : stmtOf 2 nrBody = stmtOf 2 nrBody := rfl
  conv at hz2 => rhs; whnf
  rw [hz2]; clear hz2
  have hz3 : stmtOf 3 nrBody = stmtOf 3 nrBody := rfl
  conv at hz3 => rhs; whnf
  rw [hz3]; clear hz3
  go_wp2_with (first
    | (go_at_call 32; (with_reducible refine (HSTR.out _).mono ?_); rintro e W3 ⟨rfl, b3⟩; have hs3 := HS2.out.step b3; have q14 : W3.cell? ⟨V.heap.size, 14, none⟩ = some (.bool false) := hs3.cell 14; have q15 : W3.cell? ⟨V.heap.size, 15, none⟩ = some (.int .i64 0) := hs3.cell 15; have qfz := hs3.frozen; have HS3 := Lib.hid hs3; clear b3 hs3)
    | (go_at_call 31; (with_reducible refine (HCUT.out _).mono ?_); rintro e W2 ⟨rfl, b2⟩; have hs2 := HS1.out.step b2; have p16 : W2.cell? ⟨V.heap.size, 16, none⟩ = some (.bool false) := hs2.cell 16; have pfz := hs2.frozen; have HS2 := Lib.hid hs2; clear b2 hs2)
    | ((with_reducible refine gate_store (t := 26) (p := 4) rfl ?_); refine store_new_event rfl rfl rfl V.heap.size (patI 0 0 0 0 0 0 0 0 ⟨#[]⟩ false 0 false) _ 26 rfl rfl (heap_alloc_new V _) (by kernel_rfl) rfl (patI_one _ _ _ _ _ _ _ _ _ _ _ _) ?_; intro W1 hW1 hput; have HS1 : Hid (Nst w W1 w.heap.size V.heap.size N.np0) := Lib.hid ⟨hput.below (HBV.out.alloc HBV.out.size _) HBV.out.size, Nat.le_refl _, HBV.out.size, Nat.ne_of_lt (blk_lt HAV.out), hput.other (blk_alloc HAV.out _) (Nat.ne_of_lt (blk_lt HAV.out)), hW1⟩; clear hput hW1))
  have hs4 : Nst w ((W3.setCell ⟨V.heap.size, 14, none⟩ (.bool true)).setCell ⟨V.heap.size, 15, none⟩ (.int .i64 (n9 : Int))) w.heap.size V.heap.size { N.np0 with sci := true, minExp := n9, plus := false } :=
    (HS3.out.set 14 (.bool true) (show (patN { N.np0 with plus := false }).setIfInBounds 14 (.bool true) = patN { N.np0 with sci := true, plus := false } from by simp [patN])).set 15 (.int .i64 (n9 : Int)) (by simp [patN])
  exact nr4 w _ _ _ bd.size true bd { N.np0 with sci := true, minExp := n9, plus := false } r rfl HR.out rfl rfl h9 hs4
set_option maxHeartbeats 8000000 in
set_option maxRecDepth 1000000 in
theorem nr0_d (s bd ex xx st : ByteArray) (w : World) (r : N.NP × Int) (HCUT : Hid (CutAt s 69 bd ex true)) (h1 : 0 < ex.size) (h2 : ((ex[0]'h1).toNat : Int) = 43) (hxx : ex.extract 1 ex.size = xx) (h3 : xx.toList.isEmpty = false) (h4 : st.toList.isEmpty = true) (n9 : Nat) (hn9 : xx.size = n9) (h99 : decide ((9 : Int) < (n9 : Int)) = false) (HSTR : Hid (StripAt xx st)) (hr : r = N.g4 { N.np0 with sci := true, minExp := n9, plus := true } true (N.L bd)) (h9 : bd.size ≤ 1000000000) :
    Calls Try.prog 14 #[.string s] w (NPost r w) := by
  have h5 : (((ex[0]'h1).toNat : Int) == 43) = true := beq_iff_eq.2 h2
  have h6 : (1 : Int) ≤ (ex.size : Int) := by omega
  have HR := Lib.hid hr
  clear hr h2
  have HA := heap_alloc_new w (.cells (patI 0 0 0 0 0 0 0 0 ⟨#[]⟩ false 0 false) 26 (0, 0))
  have HBV := Lib.hid ((Below.refl w.heap.size w).alloc (Nat.le_refl _) (.cells (patI 0 0 0 0 0 0 0 0 ⟨#[]⟩ false 0 false) 26 (0, 0)))
  obtain ⟨V, hV⟩ : ∃ V, V = w.alloc (.cells (patI 0 0 0 0 0 0 0 0 ⟨#[]⟩ false 0 false) 26 (0, 0)) := ⟨_, rfl⟩
  rw [← hV] at HA HBV
  have HAV := Lib.hid HA
  have hvw := hV.symm
  unfold patI at hvw
  clear HA hV
  refine calls_of_wp (c := Nr 0) Try.func14 (by kernel_rfl) ?_
  simp only [Try.ntmps14, List.size_toArray, List.length_cons, List.length_nil, Nat.reduceAdd, Nat.reduceSub, Array.replicate_succ, Array.replicate_zero, List.push_toArray, List.append_toArray, List.nil_append, List.cons_append]
  rw [show Nr 0 = .seq (stmtOf 0 nrBody) (.seq (stmtOf 1 nrBody) (.seq (stmtOf 2 nrBody) (.seq (stmtOf 3 nrBody) (Nr 4)))) from by kernel_rfl]
  have hz0 : stmtOf 0 nrBody = stmtOf 0 nrBody := rfl
  conv at hz0 => rhs; whnf
  rw [hz0]; clear hz0
  have hz1 : stmtOf 1 nrBody = stmtOf 1 nrBody := rfl
  conv at hz1 => rhs; whnf
  rw [hz1]; clear hz1
  have hz2 : stmtOf 2 nrBody = stmtOf 2 nrBody := rfl
  conv at hz2 => rhs; whnf
  rw [hz2]; clear hz2
  have hz3 : stmtOf 3 nrBody = stmtOf 3 nrBody := rfl
  conv at hz3 => rhs; whnf
  rw [hz3]; clear hz3
  go_wp2_with (first
    | (go_at_call 32; (with_reducible refine (HSTR.out _).mono ?_); rintro e W3 ⟨rfl, b3⟩; have hs3 := (HS2.out.set 16 (.bool true) (show (patN N.np0).setIfInBounds 16 (.bool true) = patN { N.np0 with plus := true } from by simp [patN])).step b3; have q14 : W3.cell? ⟨V.heap.size, 14, none⟩ = some (.bool false) := hs3.cell 14; have q15 : W3.cell? ⟨V.heap.size, 15, none⟩ = some (.int .i64 0) := hs3.cell 15; have qfz := hs3.frozen; have HS3 := Lib.hid hs3; clear b3 hs3)
    | (go_at_call 31; (with_reducible refine (HCUT.out _).mono ?_); rintro e W2 ⟨rfl, b2⟩; have hs2 := HS1.out.step b2; have p16 : W2.cell? ⟨V.heap.size, 16, none⟩ = some (.bool false) := hs2.cell 16; have pfz := hs2.frozen; have HS2 := Lib.hid hs2; clear b2 hs2)
    | ((with_reducible refine gate_store (t := 26) (p := 4) rfl ?_); refine store_new_event rfl rfl rfl V.heap.size (patI 0 0 0 0 0 0 0 0 ⟨#[]⟩ false 0 false) _ 26 rfl rfl (heap_alloc_new V _) (by kernel_rfl) rfl (patI_one _ _ _ _ _ _ _ _ _ _ _ _) ?_; intro W1 hW1 hput; have HS1 : Hid (Nst w W1 w.heap.size V.heap.size N.np0) := Lib.hid ⟨hput.below (HBV.out.alloc HBV.out.size _) HBV.out.size, Nat.le_refl _, HBV.out.size, Nat.ne_of_lt (blk_lt HAV.out), hput.other (blk_alloc HAV.out _) (Nat.ne_of_lt (blk_lt HAV.out)), hW1⟩; clear hput hW1))
  have hs4 : Nst w ((W3.setCell ⟨V.heap.size, 14, none⟩ (.bool true)).setCell ⟨V.heap.size, 15, none⟩ (.int .i64 (n9 : Int))) w.heap.size V.heap.size { N.np0 with sci := true, minExp := n9, plus := true } :=
    (HS3.out.set 14 (.bool true) (show (patN { N.np0 with plus := true }).setIfInBounds 14 (.bool true) = patN { N.np0 with sci := true, plus := true } from by simp [patN])).set 15 (.int .i64 (n9 : Int)) (by simp [patN])
  exact nr4 w _ _ _ bd.size true bd { N.np0 with sci := true, minExp := n9, plus := true } r rfl HR.out rfl rfl h9 hs4
/- The reference's Number: its contract. -/

theorem head_one (l : List UInt8) (h : 0 < (mkB l).size) : l.head? = some ((mkB l)[0]'h) := by
  have := head_at (mkB l) h
  rwa [L_mkB] at this
theorem number_calls (s : ByteArray) (hs : s.size ≤ 1000000000) (w : World) : Calls Try.prog 14 #[.string s] w (NPost (N.numN (N.L s)) w) := by
  have HCUT := Lib.hid (cut_at s 69 hs)
  have hlen := N.cut_len 69 (N.L s)
  rw [← N.g0_is]
  unfold N.g0 N.g3
  revert HCUT hlen
  generalize N.cutC 69 (N.L s) = cc
  obtain ⟨bl, el, sc⟩ := cc
  intro HCUT hlen
  simp only at HCUT hlen ⊢
  rw [N.L_len] at hlen
  have h9 : (mkB bl).size ≤ 1000000000 := by rw [mkB_size]; omega
  have hbd : bl = N.L (mkB bl) := (L_mkB bl).symm
  cases sc with
  | false =>
    rw [if_neg (by decide)]
    exact nr0_a s (mkB bl) (mkB el) w _ HCUT (by rw [L_mkB]) h9
  | true =>
    rw [if_pos rfl]
    have hrow : ∀ (xx : ByteArray), N.L xx = N.expX el →
        (xx.toList.isEmpty = true → (if N.expX el = [] ∨ (N.expX el).dropWhile N.is0 ≠ [] then (N.np0, (4 : Int)) else if 9 < (N.expX el).length then (N.np0, 8) else N.g4 { N.np0 with sci := true, minExp := (N.expX el).length, plus := N.isPlus el } true bl) = (N.np0, 4)) ∧
        (xx.toList.isEmpty = false → (mkB ((N.L xx).dropWhile N.is0)).toList.isEmpty = false → (if N.expX el = [] ∨ (N.expX el).dropWhile N.is0 ≠ [] then (N.np0, (4 : Int)) else if 9 < (N.expX el).length then (N.np0, 8) else N.g4 { N.np0 with sci := true, minExp := (N.expX el).length, plus := N.isPlus el } true bl) = (N.np0, 4)) ∧
        (xx.toList.isEmpty = false → (mkB ((N.L xx).dropWhile N.is0)).toList.isEmpty = true → 9 < xx.size → (if N.expX el = [] ∨ (N.expX el).dropWhile N.is0 ≠ [] then (N.np0, (4 : Int)) else if 9 < (N.expX el).length then (N.np0, 8) else N.g4 { N.np0 with sci := true, minExp := (N.expX el).length, plus := N.isPlus el } true bl) = (N.np0, 8)) ∧
        (xx.toList.isEmpty = false → (mkB ((N.L xx).dropWhile N.is0)).toList.isEmpty = true → ¬ 9 < xx.size → (if N.expX el = [] ∨ (N.expX el).dropWhile N.is0 ≠ [] then (N.np0, (4 : Int)) else if 9 < (N.expX el).length then (N.np0, 8) else N.g4 { N.np0 with sci := true, minExp := (N.expX el).length, plus := N.isPlus el } true bl) = N.g4 { N.np0 with sci := true, minExp := xx.size, plus := N.isPlus el } true (N.L (mkB bl))) := by
      intro xx hx
      rw [isE_iff, isE_iff, L_mkB, hx, ← N.L_len xx, hx, L_mkB]
      refine ⟨fun h => ?_, fun h1 h2 => ?_, fun h1 h2 h3 => ?_, fun h1 h2 h3 => ?_⟩
      · rw [if_pos (.inl (of_decide_eq_true h))]
      · rw [if_pos (.inr (of_decide_eq_false h2))]
      · rw [if_neg (by rintro (h | h); exact of_decide_eq_false h1 h; exact h (of_decide_eq_true h2)), if_pos h3]
      · rw [if_neg (by rintro (h | h); exact of_decide_eq_false h1 h; exact h (of_decide_eq_true h2)), if_neg h3]
    by_cases h1 : 0 < (mkB el).size
    · have hh := head_one el h1
      by_cases h2 : (((mkB el)[0]'h1).toNat : Int) = 43
      · have h43 : (mkB el)[0]'h1 = 43 := UInt8.toNat_inj.1 (by have e43 : (43 : UInt8).toNat = 43 := rfl; omega)
        rw [h43] at hh
        have hip : N.isPlus el = true := by unfold N.isPlus; rw [hh]; rfl
        obtain ⟨xx, hxx⟩ : ∃ xx, (mkB el).extract 1 (mkB el).size = xx := ⟨_, rfl⟩
        have hL : N.L xx = N.expX el := by
          unfold N.expX
          rw [if_pos hip, ← hxx, N.L_extD, L_mkB, List.drop_one]
        obtain ⟨r1, r2, r3, r4⟩ := hrow xx hL
        cases hxe : xx.toList.isEmpty with
        | true =>
          rw [r1 hxe]
          exact nr_exp4c s (mkB bl) (mkB el) xx ⟨#[]⟩ w h1 h2 hxx hxe HCUT (Lib.hid (fun W => by
            have := strip_at xx W
            have hz : (N.L xx).dropWhile N.is0 = [] := by
              rw [isE_iff] at hxe
              rw [of_decide_eq_true hxe]; rfl
            rw [hz] at this
            exact this))
        | false =>
          cases hse : (mkB ((N.L xx).dropWhile N.is0)).toList.isEmpty with
          | false =>
            rw [r2 hxe hse]
            exact nr_exp4d s (mkB bl) (mkB el) xx _ w h1 h2 hxx hxe hse HCUT (Lib.hid (strip_at xx))
          | true =>
            by_cases h9x : 9 < xx.size
            · rw [r3 hxe hse h9x]
              exact nr_exp8d s (mkB bl) (mkB el) xx _ w h1 h2 hxx hxe hse (decide_eq_true (by omega)) HCUT (Lib.hid (strip_at xx))
            · rw [r4 hxe hse h9x, hip]
              exact nr0_d s (mkB bl) (mkB el) xx _ w _ HCUT h1 h2 hxx hxe hse xx.size rfl (decide_eq_false (by omega)) (Lib.hid (strip_at xx)) rfl h9
      · have hip : N.isPlus el = false := by
          unfold N.isPlus
          rw [hh]
          exact beq_eq_false_iff_ne.2 (fun e => h2 (by rw [Option.some.inj e]; rfl))
        have hL : N.L (mkB el) = N.expX el := by
          unfold N.expX
          rw [if_neg (by rw [hip]; decide), L_mkB]
        obtain ⟨r1, r2, r3, r4⟩ := hrow (mkB el) hL
        have hxe : (mkB el).toList.isEmpty = false := by
          rw [isE_iff, L_mkB]
          refine decide_eq_false (fun e => ?_)
          rw [mkB_size, e] at h1
          exact absurd h1 (by decide)
        cases hse : (mkB ((N.L (mkB el)).dropWhile N.is0)).toList.isEmpty with
        | false =>
          rw [r2 hxe hse]
          exact nr_exp4b s (mkB bl) (mkB el) (mkB el) _ w rfl h1 h2 hxe hse HCUT (Lib.hid (strip_at (mkB el)))
        | true =>
          by_cases h9x : 9 < (mkB el).size
          · rw [r3 hxe hse h9x]
            exact nr_exp8b s (mkB bl) (mkB el) (mkB el) _ w rfl h1 h2 hxe hse (decide_eq_true (by omega)) HCUT (Lib.hid (strip_at (mkB el)))
          · rw [r4 hxe hse h9x, hip]
            exact nr0_b s (mkB bl) (mkB el) (mkB el) _ w _ HCUT rfl h1 h2 hxe hse (mkB el).size rfl (decide_eq_false (by omega)) (Lib.hid (strip_at (mkB el))) rfl h9
    · have he : el = [] := by
        rw [mkB_size] at h1
        exact List.eq_nil_of_length_eq_zero (by omega)
      subst he
      rw [if_pos (.inl rfl)]
      exact nr_exp4a s (mkB bl) (mkB []) (mkB []) (mkB []) w rfl rfl (by rw [isE_iff, L_mkB]; rfl) HCUT (Lib.hid (strip_at (mkB [])))
end Go.Proofs.Ytkgdpgoianimjaa.Print
