/- The reference's PrintNumber, in pieces: ahead of the commas. Frames printed by this session's own program (wip/tools/mk_pn.py). -/
import Derived.Test.YtgobcejjefgkcaaDoorNpn
import Derived.Deep.QuietTactic
import Derived.BigQuiet
namespace Go.Proofs.YtgobcejjefgkcaaDoor.Print
open Go.RowKit Go.Proofs.YtgobcejjefgkcaaDoorW.PrintWords Go.Proofs.YtgobcejjefgkcaaDoorW.PrintLast Go.Proofs.YtgobcejjefgkcaaDoorW.PrintMore
set_option linter.unusedVariables false
set_option linter.unusedSimpArgs false
variable {v0 v1 v2 v3 v4 v5 v6 v7 v8 v9 v10 v11 v12 v13 v14 v15 v16 v17 v18 v19 v20 v21 v22 v23 v24 v25 v26 v27 v28 v29 v30 v31 v32 v33 v34 v35 v36 v37 v38 v39 v40 v41 v42 v43 v44 v45 v46 v47 v48 v49 v50 v51 v52 v53 v54 v55 v56 v57 v58 v59 v60 v61 v62 v63 v64 v65 v66 v67 v68 v69 v70 v71 v72 v73 v74 v75 v76 v77 v78 v79 v80 v81 v82 v83 v84 v85 v86 v87 v88 v89 v90 v91 v92 v93 v94 v95 v96 v97 v98 v99 v100 v101 v102 v103 v104 v105 v106 v107 v108 v109 v110 v111 v112 v113 v114 v115 v116 v117 v118 v119 v120 v121 v122 v123 v124 v125 v126 v127 v128 v129 v130 v131 v132 v133 v134 v135 v136 v137 v138 v139 v140 v141 v142 v143 v144 v145 v146 v147 v148 v149 v150 v151 v152 v153 v154 v155 v156 v157 v158 : Value}

/-! ### more noughts ahead -/
set_option maxHeartbeats 8000000 in
set_option maxRecDepth 1000000 in
theorem pn6_a (w W : World) (pb : Nat) (p : N.NP) (m : Int) (dg w0 t T : ByteArray) (hs : p.sci = true) (h9 : w0.size ≤ 1000000) (hdg : dg = mkB (N.digitsN p)) (g : N.Good p) (hT : T = mkB (N.refCommas (N.L w0) p.prim p.sec w0.size)) (ht : t = T ++ mkB (N.fracP p) ++ mkB (N.expP p)) (hst : Pst w W pb p) :
    Code.wp Tryd.prog (Pn 6) (bodyPost Tryd.prog Tryd.f14 (PPost t w)) ⟨#[v0, .int .i64 m, .pointer (some ⟨pb, 0, none⟩), v3, v4, .string dg, .string w0, v7, v8, v9, v10, v11, v12, v13, v14, v15, v16, v17, v18, v19, v20, v21, v22, v23, v24, v25, v26, v27, v28, v29, v30, v31, v32, v33, v34, v35, v36, v37, v38, v39, v40, v41, v42, v43, v44, v45, v46, v47, v48, v49, v50, v51, v52, v53, v54, v55, v56, v57, v58, v59, v60, v61, v62, v63, v64, v65, v66, v67, v68, v69, v70, v71, v72, v73, v74, v75, v76, v77, v78, v79, v80, v81, v82, v83, v84, v85, v86, v87, v88, v89, v90, v91, v92, v93, v94, v95, v96, v97, v98, v99, v100, v101, v102, v103, v104, v105, v106, v107, v108, v109, v110, v111, v112, v113, v114, v115, v116, v117, v118, v119, v120, v121, v122, v123, v124, v125, v126, v127, v128, v129, v130, v131, v132, v133, v134, v135, v136, v137, v138, v139, v140, v141, v142, v143, v144, v145, v146, v147, v148, v149, v150, v151, v152, v153, v154, v155, v156, v157, v158], []⟩ W := by
  have HTT := Lib.hid hT
  have HT := Lib.hid ht
  have HG := Lib.hid g
  have HD := Lib.hid hdg
  have p14 := hst.cell 14
  change W.cell? ⟨pb, 14, none⟩ = some (.bool p.sci) at p14
  rw [hs] at p14
  have HS := Lib.hid hst
  clear ht g hdg hst hT hs
  rw [show Pn 6 = .seq (stmtOf 6 pnBody) (Pn 7) from by kernel_rfl]
  have hz6 : stmtOf 6 pnBody = stmtOf 6 pnBody := rfl
  conv at hz6 => rhs; whnf
  rw [hz6]; clear hz6
  go_wp2
  exact pn7 w W pb p dg w0 t T w0.size rfl h9 HD.out HG.out HTT.out HT.out HS.out
set_option maxHeartbeats 8000000 in
set_option maxRecDepth 1000000 in
theorem pn6_b (w W : World) (pb : Nat) (p : N.NP) (m : Int) (dg w0 r0 t T : ByteArray) (n0 n1 : Nat) (hm : m ≤ 100) (hs : p.sci = false) (hn0 : w0.size = n0) (h9 : n0 ≤ 1000) (hr0 : r0 = mkB (N.rp 35 m)) (hn1 : r0.size = n1) (h91 : n1 ≤ 100) (hdg : dg = mkB (N.digitsN p)) (g : N.Good p) (hT : T = mkB (N.refCommas (N.L (r0 ++ w0)) p.prim p.sec (r0 ++ w0).size)) (ht : t = T ++ mkB (N.fracP p) ++ mkB (N.expP p)) (hst : Pst w W pb p) :
    Code.wp Tryd.prog (Pn 6) (bodyPost Tryd.prog Tryd.f14 (PPost t w)) ⟨#[v0, .int .i64 m, .pointer (some ⟨pb, 0, none⟩), v3, v4, .string dg, .string w0, v7, v8, v9, v10, v11, v12, v13, v14, v15, v16, v17, v18, v19, v20, v21, v22, v23, v24, v25, v26, v27, v28, v29, v30, v31, v32, v33, v34, v35, v36, v37, v38, v39, v40, v41, v42, v43, v44, v45, v46, v47, v48, v49, v50, v51, v52, v53, v54, v55, v56, v57, v58, v59, v60, v61, v62, v63, v64, v65, v66, v67, v68, v69, v70, v71, v72, v73, v74, v75, v76, v77, v78, v79, v80, v81, v82, v83, v84, v85, v86, v87, v88, v89, v90, v91, v92, v93, v94, v95, v96, v97, v98, v99, v100, v101, v102, v103, v104, v105, v106, v107, v108, v109, v110, v111, v112, v113, v114, v115, v116, v117, v118, v119, v120, v121, v122, v123, v124, v125, v126, v127, v128, v129, v130, v131, v132, v133, v134, v135, v136, v137, v138, v139, v140, v141, v142, v143, v144, v145, v146, v147, v148, v149, v150, v151, v152, v153, v154, v155, v156, v157, v158], []⟩ W := by
  have HTT := Lib.hid hT
  have HT := Lib.hid ht
  have HG := Lib.hid g
  have HD := Lib.hid hdg
  have HR := Lib.hid hr0
  have p14 := hst.cell 14
  change W.cell? ⟨pb, 14, none⟩ = some (.bool p.sci) at p14
  rw [hs] at p14
  have HS := Lib.hid hst
  clear ht g hdg hst hT hs hr0
  rw [show Pn 6 = .seq (stmtOf 6 pnBody) (Pn 7) from by kernel_rfl]
  have hz6 : stmtOf 6 pnBody = stmtOf 6 pnBody := rfl
  conv at hz6 => rhs; whnf
  rw [hz6]; clear hz6
  go_wp2_with (go_at_call 31; (with_reducible refine (rrep_calls 35 m (by omega) _).mono ?_); rintro e W1 ⟨rfl, rfl⟩; rw [← HR.out])
  exact pn7 w W pb p dg _ t T (r0 ++ w0).size rfl (by rw [ByteArray.size_append]; omega) HD.out HG.out HTT.out HT.out HS.out
/-! ### padded -/
set_option maxHeartbeats 8000000 in
set_option maxRecDepth 1000000 in
theorem pn5_w (w W : World) (pb : Nat) (p : N.NP) (m le : Int) (dg wp r0 t T w0 : ByteArray) (n0 n1 : Nat) (hm : m ≤ 100) (hn0 : wp.size = n0) (h9 : n0 ≤ 200) (hl0 : 0 ≤ le) (hl9 : le ≤ 100) (hr0 : r0 = mkB (N.rp 35 (le - (n0 : Int)))) (hn1 : r0.size = n1) (h91 : n1 ≤ 100) (hw0 : w0 = r0 ++ wp) (hdg : dg = mkB (N.digitsN p)) (g : N.Good p)
    (hT : T = mkB (N.refCommas (N.L (if p.sci then w0 else mkB (N.rp 35 m) ++ w0)) p.prim p.sec (if p.sci then w0 else mkB (N.rp 35 m) ++ w0).size)) (ht : t = T ++ mkB (N.fracP p) ++ mkB (N.expP p)) (hst : Pst w W pb p) :
    Code.wp Tryd.prog (Pn 5) (bodyPost Tryd.prog Tryd.f14 (PPost t w)) ⟨#[v0, .int .i64 m, .pointer (some ⟨pb, 0, none⟩), v3, v4, .string dg, .string wp, .int .i64 le, v8, v9, v10, v11, v12, v13, v14, v15, v16, v17, v18, v19, v20, v21, v22, v23, v24, v25, v26, v27, v28, v29, v30, v31, v32, v33, v34, v35, v36, v37, v38, v39, v40, v41, v42, v43, v44, v45, v46, v47, v48, v49, v50, v51, v52, v53, v54, v55, v56, v57, v58, v59, v60, v61, v62, v63, v64, v65, v66, v67, v68, v69, v70, v71, v72, v73, v74, v75, v76, v77, v78, v79, v80, v81, v82, v83, v84, v85, v86, v87, v88, v89, v90, v91, v92, v93, v94, v95, v96, v97, v98, v99, v100, v101, v102, v103, v104, v105, v106, v107, v108, v109, v110, v111, v112, v113, v114, v115, v116, v117, v118, v119, v120, v121, v122, v123, v124, v125, v126, v127, v128, v129, v130, v131, v132, v133, v134, v135, v136, v137, v138, v139, v140, v141, v142, v143, v144, v145, v146, v147, v148, v149, v150, v151, v152, v153, v154, v155, v156, v157, v158], []⟩ W := by
  have HTT := Lib.hid hT
  have HT := Lib.hid ht
  have HG := Lib.hid g
  have HD := Lib.hid hdg
  have HR := Lib.hid hr0
  have HW := Lib.hid hw0
  have HS := Lib.hid hst
  have hz0 : w0.size ≤ 300 := by rw [hw0, ByteArray.size_append]; omega
  clear ht g hdg hst hT hr0 hw0
  rw [show Pn 5 = .seq (stmtOf 5 pnBody) (Pn 6) from by kernel_rfl]
  have hz5 : stmtOf 5 pnBody = stmtOf 5 pnBody := rfl
  conv at hz5 => rhs; whnf
  rw [hz5]; clear hz5
  go_wp2_with (go_at_call 31; (with_reducible refine (rrep_calls 35 (le - (n0 : Int)) (by omega) _).mono ?_); rintro e W1 ⟨rfl, rfl⟩; rw [← HR.out])
  rw [← HW.out]
  have hT := HTT.out
  cases hs : p.sci with
  | true =>
    rw [if_pos hs] at hT
    exact pn6_a w W pb p m dg w0 t T hs (by omega) HD.out HG.out hT HT.out HS.out
  | false =>
    rw [if_neg (by rw [hs]; decide)] at hT
    exact pn6_b w W pb p m dg w0 _ t T w0.size _ hm hs rfl (by omega) rfl rfl (by rw [mkB_size, N.rp_len]; omega) HD.out HG.out hT HT.out HS.out
/-! ### least -/
set_option maxHeartbeats 8000000 in
set_option maxRecDepth 1000000 in
theorem pn3 (w W : World) (pb : Nat) (p : N.NP) (m : Int) (dg wp t : ByteArray) (hm : m ≤ 100) (hwp : wp = mkB (N.wholeP p)) (hdg : dg = mkB (N.digitsN p)) (g : N.Good p)
    (ht : t = mkB (N.refCommas (N.moreP p m) p.prim p.sec (N.moreP p m).length) ++ mkB (N.fracP p) ++ mkB (N.expP p)) (hst : Pst w W pb p) :
    Code.wp Tryd.prog (Pn 3) (bodyPost Tryd.prog Tryd.f14 (PPost t w)) ⟨#[v0, .int .i64 m, .pointer (some ⟨pb, 0, none⟩), v3, v4, .string dg, .string wp, v7, v8, v9, v10, v11, v12, v13, v14, v15, v16, v17, v18, v19, v20, v21, v22, v23, v24, v25, v26, v27, v28, v29, v30, v31, v32, v33, v34, v35, v36, v37, v38, v39, v40, v41, v42, v43, v44, v45, v46, v47, v48, v49, v50, v51, v52, v53, v54, v55, v56, v57, v58, v59, v60, v61, v62, v63, v64, v65, v66, v67, v68, v69, v70, v71, v72, v73, v74, v75, v76, v77, v78, v79, v80, v81, v82, v83, v84, v85, v86, v87, v88, v89, v90, v91, v92, v93, v94, v95, v96, v97, v98, v99, v100, v101, v102, v103, v104, v105, v106, v107, v108, v109, v110, v111, v112, v113, v114, v115, v116, v117, v118, v119, v120, v121, v122, v123, v124, v125, v126, v127, v128, v129, v130, v131, v132, v133, v134, v135, v136, v137, v138, v139, v140, v141, v142, v143, v144, v145, v146, v147, v148, v149, v150, v151, v152, v153, v154, v155, v156, v157, v158], []⟩ W := by
  have hfin : ∀ {u7 : Value} {f : List Value} (le : Int), le = (N.leastN p : Int) → True := fun _ _ => trivial
  have g1 := g.p40
  have g2 := g.q40
  have g3 := g.x40
  have hwl := N.wholeP_len g
  have hw40 : (N.wholeP p).length ≤ 40 := by
    rw [hwl]
    have := g.s40
    have := g.i40
    split <;> omega
  have hle40 : (N.leastN p) ≤ 81 := by
    unfold N.leastN
    repeat' split
    all_goals omega
  have hmore : ∀ le : Int, le = (N.leastN p : Int) → (if p.sci then mkB (N.rp 35 (le - (wp.size : Int))) ++ wp else mkB (N.rp 35 m) ++ (mkB (N.rp 35 (le - (wp.size : Int))) ++ wp)) = mkB (N.moreP p m) := fun le hl => by
    have e : mkB (N.rp 35 (le - (wp.size : Int))) ++ wp = mkB (N.padP p) := by
      unfold N.padP
      rw [hwp, mkB_app, mkB_size, hl]
    unfold N.moreP
    cases p.sci with
    | true => simp only [if_true]; exact e
    | false => simp only [Bool.false_eq_true, if_false]; rw [e, mkB_app]
  have H5 : ∀ (a : Act) (le : Int), le = (N.leastN p : Int) → (∀ (T w0 : ByteArray), w0 = mkB (N.rp 35 (le - (wp.size : Int))) ++ wp → T = mkB (N.refCommas (N.L (if p.sci then w0 else mkB (N.rp 35 m) ++ w0)) p.prim p.sec (if p.sci then w0 else mkB (N.rp 35 m) ++ w0).size) → t = T ++ mkB (N.fracP p) ++ mkB (N.expP p) → Code.wp Tryd.prog (Pn 5) (bodyPost Tryd.prog Tryd.f14 (PPost t w)) a W) → Code.wp Tryd.prog (Pn 5) (bodyPost Tryd.prog Tryd.f14 (PPost t w)) a W := fun a le hl h => by
    refine h _ _ rfl rfl ?_
    rw [hmore le hl, L_mkB, mkB_size]
    exact ht
  have hwz : wp.size ≤ 40 := by rw [hwp, mkB_size]; exact hw40
  have H5' := Lib.hid H5
  have HG := Lib.hid g
  have HD := Lib.hid hdg
  have HS := Lib.hid hst
  have p6 := hst.cell 6
  have p8 := hst.cell 8
  have p9 := hst.cell 9
  have p11 := hst.cell 11
  have p12 := hst.cell 12
  have p14 := hst.cell 14
  change W.cell? ⟨pb, 6, none⟩ = some (.int .i64 p.maxInt) at p6
  change W.cell? ⟨pb, 8, none⟩ = some (.int .i64 p.maxFrac) at p8
  change W.cell? ⟨pb, 9, none⟩ = some (.int .i64 p.minSig) at p9
  change W.cell? ⟨pb, 11, none⟩ = some (.int .i64 p.prim) at p11
  change W.cell? ⟨pb, 12, none⟩ = some (.int .i64 p.sec) at p12
  change W.cell? ⟨pb, 14, none⟩ = some (.bool p.sci) at p14
  obtain ⟨xi, hxi⟩ : ∃ x : Int, x = (p.maxInt : Int) := ⟨_, rfl⟩
  obtain ⟨xf, hxf⟩ : ∃ x : Int, x = (p.maxFrac : Int) := ⟨_, rfl⟩
  obtain ⟨ms, hms⟩ : ∃ x : Int, x = (p.minSig : Int) := ⟨_, rfl⟩
  obtain ⟨pr, hpr⟩ : ∃ x : Int, x = (p.prim : Int) := ⟨_, rfl⟩
  obtain ⟨se, hse⟩ : ∃ x : Int, x = (p.sec : Int) := ⟨_, rfl⟩
  obtain ⟨sc, hsc⟩ : ∃ x : Bool, x = p.sci := ⟨_, rfl⟩
  rw [← hxi] at p6
  rw [← hxf] at p8
  rw [← hms] at p9
  rw [← hpr] at p11
  rw [← hse] at p12
  rw [← hsc] at p14
  have hways : (sc = true ∧ (ms == 0) = true ∧ xi = (N.leastN p : Int)) ∨
      ((sc = false ∨ sc = true ∧ (ms == 0) = false) ∧ ((decide (0 < pr) = true ∧ (se != pr) = true ∧ pr + 1 + se = (N.leastN p : Int)) ∨ (decide (0 < pr) = true ∧ (se != pr) = false ∧ pr + 1 = (N.leastN p : Int)) ∨ (decide (0 < pr) = false ∧ (xf == 0) = true ∧ 1 = (N.leastN p : Int)) ∨ (decide (0 < pr) = false ∧ (xf == 0) = false ∧ 0 = (N.leastN p : Int)))) := by
    have e : (N.leastN p : Int) = if sc = true ∧ ms = 0 then xi else if 0 < pr ∧ se ≠ pr then pr + se + 1 else if 0 < pr then pr + 1 else if xf = 0 then 1 else 0 := by
      unfold N.leastN
      rw [hsc, hms, hxi, hpr, hse, hxf]
      by_cases c1 : p.sci = true ∧ p.minSig = 0
      · rw [if_pos c1, if_pos (show p.sci = true ∧ (p.minSig : Int) = 0 from ⟨c1.1, by omega⟩)]
      rw [if_neg c1, if_neg (show ¬ (p.sci = true ∧ (p.minSig : Int) = 0) from fun h => c1 ⟨h.1, by omega⟩)]
      by_cases c2 : 0 < p.prim ∧ p.sec ≠ p.prim
      · rw [if_pos c2, if_pos (show 0 < (p.prim : Int) ∧ (p.sec : Int) ≠ (p.prim : Int) from ⟨by omega, by omega⟩)]; omega
      rw [if_neg c2, if_neg (show ¬ (0 < (p.prim : Int) ∧ (p.sec : Int) ≠ (p.prim : Int)) from fun h => c2 ⟨by omega, by omega⟩)]
      by_cases c3 : 0 < p.prim
      · rw [if_pos c3, if_pos (show 0 < (p.prim : Int) by omega)]; omega
      rw [if_neg c3, if_neg (show ¬ 0 < (p.prim : Int) by omega)]
      by_cases c4 : p.maxFrac = 0
      · rw [if_pos c4, if_pos (show (p.maxFrac : Int) = 0 by omega)]; rfl
      · rw [if_neg c4, if_neg (show ¬ (p.maxFrac : Int) = 0 by omega)]; rfl
    rw [e]
    cases sc with
    | true =>
      by_cases c1 : ms = 0
      · left
        exact ⟨rfl, beq_iff_eq.2 c1, by rw [if_pos ⟨rfl, c1⟩]⟩
      · right
        refine ⟨.inr ⟨rfl, beq_eq_false_iff_ne.2 c1⟩, ?_⟩
        rw [if_neg (fun h => c1 h.2)]
        by_cases c2 : 0 < pr
        · by_cases c3 : se = pr
          · right; left
            exact ⟨decide_eq_true c2, by rw [c3]; simp, by rw [if_neg (fun h => h.2 c3), if_pos c2]⟩
          · left
            exact ⟨decide_eq_true c2, bne_iff_ne.2 c3, by rw [if_pos ⟨c2, c3⟩]; omega⟩
        · right; right
          by_cases c4 : xf = 0
          · left
            exact ⟨decide_eq_false c2, beq_iff_eq.2 c4, by rw [if_neg (fun h => c2 h.1), if_neg c2, if_pos c4]⟩
          · right
            exact ⟨decide_eq_false c2, beq_eq_false_iff_ne.2 c4, by rw [if_neg (fun h => c2 h.1), if_neg c2, if_neg c4]⟩
    | false =>
      right
      refine ⟨.inl rfl, ?_⟩
      rw [if_neg (fun h => by cases h.1)]
      by_cases c2 : 0 < pr
      · by_cases c3 : se = pr
        · right; left
          exact ⟨decide_eq_true c2, by rw [c3]; simp, by rw [if_neg (fun h => h.2 c3), if_pos c2]⟩
        · left
          exact ⟨decide_eq_true c2, bne_iff_ne.2 c3, by rw [if_pos ⟨c2, c3⟩]; omega⟩
      · right; right
        by_cases c4 : xf = 0
        · left
          exact ⟨decide_eq_false c2, beq_iff_eq.2 c4, by rw [if_neg (fun h => c2 h.1), if_neg c2, if_pos c4]⟩
        · right
          exact ⟨decide_eq_false c2, beq_eq_false_iff_ne.2 c4, by rw [if_neg (fun h => c2 h.1), if_neg c2, if_neg c4]⟩
  have bpr : 0 ≤ pr ∧ pr ≤ 40 := by omega
  have bse : 0 ≤ se ∧ se ≤ 40 := by omega
  have hl9 : (N.leastN p : Int) ≤ 100 ∧ 0 ≤ (N.leastN p : Int) := by omega
  have HL := Lib.hid hl9
  obtain ⟨b1, b2⟩ := bpr
  obtain ⟨b3, b4⟩ := bse
  clear hxi hxf hms hpr hse hsc hst hdg hwp ht H5 hmore g hfin hwl hw40 hle40 g1 g2 g3 hl9
  rw [show Pn 3 = .seq (stmtOf 3 pnBody) (.seq (stmtOf 4 pnBody) (Pn 5)) from by kernel_rfl]
  have hz3 : stmtOf 3 pnBody = stmtOf 3 pnBody := rfl
  conv at hz3 => rhs; whnf
  rw [hz3]; clear hz3
  have hz4 : stmtOf 4 pnBody = stmtOf 4 pnBody := rfl
  conv at hz4 => rhs; whnf
  rw [hz4]; clear hz4
  rcases hways with ⟨rfl, t1, HE⟩ | ⟨⟨rfl⟩ | ⟨rfl, t0⟩, ⟨t1, t2, HE⟩ | ⟨t1, t2, HE⟩ | ⟨t1, t2, HE⟩ | ⟨t1, t2, HE⟩⟩
  all_goals
    have HE2 := Lib.hid HE
    clear HE
    go_wp2
    refine H5'.out _ _ HE2.out (fun T w0 hw0 hT ht => ?_)
    have hl := HL.out
    have hE := HE2.out
    exact pn5_w w W pb p m _ dg wp _ t T w0 wp.size _ hm rfl (by omega) (by omega) (by omega) rfl rfl (by rw [mkB_size, N.rp_len]; omega) hw0 HD.out HG.out hT ht HS.out
end Go.Proofs.YtgobcejjefgkcaaDoor.Print
