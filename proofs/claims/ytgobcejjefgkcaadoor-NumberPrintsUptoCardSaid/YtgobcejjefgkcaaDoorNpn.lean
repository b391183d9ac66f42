/- The reference's PrintNumber, in pieces: its end, and the commas. Frames printed by this session's own program (wip/tools/mk_pn.py). -/
import Derived.Test.YtgobcejjefgkcaaDoorNwb
import Derived.Deep.QuietTactic
import Derived.BigQuiet
namespace Go.Proofs.YtgobcejjefgkcaaDoor.Print
open Go.RowKit Go.Proofs.YtgobcejjefgkcaaDoorW.PrintWords Go.Proofs.YtgobcejjefgkcaaDoorW.PrintLast Go.Proofs.YtgobcejjefgkcaaDoorW.PrintMore
set_option linter.unusedVariables false
set_option linter.unusedSimpArgs false
variable {v0 v1 v2 v3 v4 v5 v6 v7 v8 v9 v10 v11 v12 v13 v14 v15 v16 v17 v18 v19 v20 v21 v22 v23 v24 v25 v26 v27 v28 v29 v30 v31 v32 v33 v34 v35 v36 v37 v38 v39 v40 v41 v42 v43 v44 v45 v46 v47 v48 v49 v50 v51 v52 v53 v54 v55 v56 v57 v58 v59 v60 v61 v62 v63 v64 v65 v66 v67 v68 v69 v70 v71 v72 v73 v74 v75 v76 v77 v78 v79 v80 v81 v82 v83 v84 v85 v86 v87 v88 v89 v90 v91 v92 v93 v94 v95 v96 v97 v98 v99 v100 v101 v102 v103 v104 v105 v106 v107 v108 v109 v110 v111 v112 v113 v114 v115 v116 v117 v118 v119 v120 v121 v122 v123 v124 v125 v126 v127 v128 v129 v130 v131 v132 v133 v134 v135 v136 v137 v138 v139 v140 v141 v142 v143 v144 v145 v146 v147 v148 v149 v150 v151 v152 v153 v154 v155 v156 v157 v158 : Value}

theorem app_nil (s : ByteArray) : s ++ mkB [] = s := by
  have := mkB_app (N.L s) []
  rwa [List.append_nil, mkB_L] at this
/- The reference's rep. -/
theorem rrep_calls (c : UInt8) (n : Int) (hn : n ≤ 1000000000) (w : World) : Calls Tryd.prog 31 #[.string ⟨#[c]⟩, .int .i64 n] w fun e w' => e = .returned (.string (mkB (N.rp c n))) ∧ w = w' := by
  obtain ⟨cb, hcb⟩ : ∃ cb : ByteArray, cb = ⟨#[c]⟩ := ⟨_, rfl⟩
  have hc1 : cb.size = 1 := by rw [hcb]; rfl
  rw [← hcb]
  have HCB := Lib.hid hcb
  clear hcb
  go_enter Tryd.func31, Tryd.ntmps31
  go_wp2
  go_loop [5, 6] (fun v5 v6 => ∃ (i : Nat) (sb : ByteArray), v6 = .int .i64 (i : Int) ∧ v5 = .string sb ∧ Hid (sb = mkB (List.replicate i c)) ∧ sb.size ≤ i ∧ i ≤ n.toNat) (fun _ v6 => n.toNat - (RowKit.intOf v6).toNat)
  case atStart => exact ⟨0, ⟨#[]⟩, rfl, rfl, Lib.hid rfl, by decide, by omega⟩
  case round =>
    obtain ⟨i, sb, rfl, rfl, HS, hs, hi⟩ := hrel
    by_cases hlt : (i : Int) < n
    · have h1 : decide ((i : Int) < n) = true := decide_eq_true hlt
      go_wp2
      go_round
      case rel => exact ⟨i + 1, sb ++ cb, by go_num, rfl, Lib.hid (by rw [HS.out, HCB.out, show (⟨#[c]⟩ : ByteArray) = mkB [c] from rfl, mkB_app, ← List.replicate_succ']), by rw [ByteArray.size_append, hc1]; omega, by omega⟩
      case measure => simp [RowKit.intOf] <;> omega
    · have h1 : decide ((i : Int) < n) = false := decide_eq_false hlt
      go_wp2
      go_ret
      exact ⟨by rw [HS.out]; unfold N.rp; rw [show i = n.toNat by omega]; rfl, rfl⟩
/-- The function's text. -/
noncomputable def pnBody : Code := (Tryd.f14.body).getD .skip
noncomputable def Pn (k : Nat) : Code := restOf k pnBody
def PPost (t : ByteArray) (w : World) (e : Ending) (w' : World) : Prop := e = .returned (.string t) ∧ Below w.heap.size w w'
structure Pst (w W : World) (pb : Nat) (p : N.NP) : Prop where
  below : Below w.heap.size w W
  pat : W.heap[pb]? = some (.cells (patN p) 25 (0, 0))
theorem Pst.drewN {w W : World} {pb : Nat} {p : N.NP} (h : Pst w W pb p) (n : Nat) : Pst w (W.drewN n) pb p := ⟨pw_below_drewN h.below n, h.pat⟩
theorem Pst.cell {w W : World} {pb : Nat} {p : N.NP} (h : Pst w W pb p) (i : Nat) : W.cell? ⟨pb, i, none⟩ = (patN p)[i]? := blk_cell h.pat i
/- The end. -/
set_option maxHeartbeats 8000000 in
set_option maxRecDepth 1000000 in
theorem pn11 (w W : World) (pb : Nat) (p : N.NP) (s t : ByteArray) (ht : t = s) (hst : Pst w W pb p) :
    Code.wp Tryd.prog (Pn 11) (bodyPost Tryd.prog Tryd.f14 (PPost t w)) ⟨#[v0, v1, .pointer (some ⟨pb, 0, none⟩), v3, v4, v5, v6, v7, .string s, v9, v10, v11, v12, v13, v14, v15, v16, v17, v18, v19, v20, v21, v22, v23, v24, v25, v26, v27, v28, v29, v30, v31, v32, v33, v34, v35, v36, v37, v38, v39, v40, v41, v42, v43, v44, v45, v46, v47, v48, v49, v50, v51, v52, v53, v54, v55, v56, v57, v58, v59, v60, v61, v62, v63, v64, v65, v66, v67, v68, v69, v70, v71, v72, v73, v74, v75, v76, v77, v78, v79, v80, v81, v82, v83, v84, v85, v86, v87, v88, v89, v90, v91, v92, v93, v94, v95, v96, v97, v98, v99, v100, v101, v102, v103, v104, v105, v106, v107, v108, v109, v110, v111, v112, v113, v114, v115, v116, v117, v118, v119, v120, v121, v122, v123, v124, v125, v126, v127, v128, v129, v130, v131, v132, v133, v134, v135, v136, v137, v138, v139, v140, v141, v142, v143, v144, v145, v146, v147, v148, v149, v150, v151, v152, v153, v154, v155, v156, v157, v158], []⟩ W := by
  subst ht
  have HS := Lib.hid hst
  clear hst
  rw [show Pn 11 = .seq (stmtOf 11 pnBody) (Pn 12) from by kernel_rfl]
  have hz11 : stmtOf 11 pnBody = stmtOf 11 pnBody := rfl
  conv at hz11 => rhs; whnf
  rw [hz11]; clear hz11
  have hz21 : Pn 12 = Pn 12 := rfl
  conv at hz21 => rhs; whnf
  rw [hz21]; clear hz21
  go_wp2
  go_ret
  exact ⟨rfl, HS.out.below⟩
/- The exponent. -/
set_option maxHeartbeats 8000000 in
set_option maxRecDepth 1000000 in
theorem pn10_a (w W : World) (pb : Nat) (p : N.NP) (s t : ByteArray) (hs : p.sci = false) (ht : t = s) (hst : Pst w W pb p) :
    Code.wp Tryd.prog (Pn 10) (bodyPost Tryd.prog Tryd.f14 (PPost t w)) ⟨#[v0, v1, .pointer (some ⟨pb, 0, none⟩), v3, v4, v5, v6, v7, .string s, v9, v10, v11, v12, v13, v14, v15, v16, v17, v18, v19, v20, v21, v22, v23, v24, v25, v26, v27, v28, v29, v30, v31, v32, v33, v34, v35, v36, v37, v38, v39, v40, v41, v42, v43, v44, v45, v46, v47, v48, v49, v50, v51, v52, v53, v54, v55, v56, v57, v58, v59, v60, v61, v62, v63, v64, v65, v66, v67, v68, v69, v70, v71, v72, v73, v74, v75, v76, v77, v78, v79, v80, v81, v82, v83, v84, v85, v86, v87, v88, v89, v90, v91, v92, v93, v94, v95, v96, v97, v98, v99, v100, v101, v102, v103, v104, v105, v106, v107, v108, v109, v110, v111, v112, v113, v114, v115, v116, v117, v118, v119, v120, v121, v122, v123, v124, v125, v126, v127, v128, v129, v130, v131, v132, v133, v134, v135, v136, v137, v138, v139, v140, v141, v142, v143, v144, v145, v146, v147, v148, v149, v150, v151, v152, v153, v154, v155, v156, v157, v158], []⟩ W := by
  have HT := Lib.hid ht
  have p14 := hst.cell 14
  change W.cell? ⟨pb, 14, none⟩ = some (.bool p.sci) at p14
  rw [hs] at p14
  have HS := Lib.hid hst
  clear hst ht hs
  rw [show Pn 10 = .seq (stmtOf 10 pnBody) (Pn 11) from by kernel_rfl]
  have hz10 : stmtOf 10 pnBody = stmtOf 10 pnBody := rfl
  conv at hz10 => rhs; whnf
  rw [hz10]; clear hz10
  go_wp2
  exact pn11 w W pb p s t HT.out HS.out
set_option maxHeartbeats 8000000 in
set_option maxRecDepth 1000000 in
theorem pn10_b (w W : World) (pb : Nat) (p : N.NP) (s t e0 : ByteArray) (n : Nat) (hs : p.sci = true) (hp : p.plus = false) (hn : s.size = n) (hn9 : n ≤ 1000000000) (hme : p.minExp ≤ 9) (he : e0 = mkB (N.rp 48 p.minExp)) (he9 : e0.size ≤ 9) (ht : t = s ++ ⟨#[69]⟩ ++ e0) (hst : Pst w W pb p) :
    Code.wp Tryd.prog (Pn 10) (bodyPost Tryd.prog Tryd.f14 (PPost t w)) ⟨#[v0, v1, .pointer (some ⟨pb, 0, none⟩), v3, v4, v5, v6, v7, .string s, v9, v10, v11, v12, v13, v14, v15, v16, v17, v18, v19, v20, v21, v22, v23, v24, v25, v26, v27, v28, v29, v30, v31, v32, v33, v34, v35, v36, v37, v38, v39, v40, v41, v42, v43, v44, v45, v46, v47, v48, v49, v50, v51, v52, v53, v54, v55, v56, v57, v58, v59, v60, v61, v62, v63, v64, v65, v66, v67, v68, v69, v70, v71, v72, v73, v74, v75, v76, v77, v78, v79, v80, v81, v82, v83, v84, v85, v86, v87, v88, v89, v90, v91, v92, v93, v94, v95, v96, v97, v98, v99, v100, v101, v102, v103, v104, v105, v106, v107, v108, v109, v110, v111, v112, v113, v114, v115, v116, v117, v118, v119, v120, v121, v122, v123, v124, v125, v126, v127, v128, v129, v130, v131, v132, v133, v134, v135, v136, v137, v138, v139, v140, v141, v142, v143, v144, v145, v146, v147, v148, v149, v150, v151, v152, v153, v154, v155, v156, v157, v158], []⟩ W := by
  have HT := Lib.hid ht
  have p14 := hst.cell 14
  change W.cell? ⟨pb, 14, none⟩ = some (.bool p.sci) at p14
  have p16 := hst.cell 16
  change W.cell? ⟨pb, 16, none⟩ = some (.bool p.plus) at p16
  have p15 := hst.cell 15
  change W.cell? ⟨pb, 15, none⟩ = some (.int .i64 p.minExp) at p15
  rw [hs] at p14
  rw [hp] at p16
  have HS := Lib.hid hst
  have HE := Lib.hid he
  have h69 : (⟨#[69]⟩ : ByteArray).size = 1 := rfl
  clear hst ht hs hp he
  rw [show Pn 10 = .seq (stmtOf 10 pnBody) (Pn 11) from by kernel_rfl]
  have hz10 : stmtOf 10 pnBody = stmtOf 10 pnBody := rfl
  conv at hz10 => rhs; whnf
  rw [hz10]; clear hz10
  go_wp2_with (go_at_call 31; (with_reducible refine (rrep_calls 48 _ (by omega) _).mono ?_); rintro e W1 ⟨rfl, rfl⟩; rw [← HE.out])
  exact pn11 w W pb p _ t HT.out HS.out
set_option maxHeartbeats 8000000 in
set_option maxRecDepth 1000000 in
theorem pn10_c (w W : World) (pb : Nat) (p : N.NP) (s t e0 : ByteArray) (n : Nat) (hs : p.sci = true) (hp : p.plus = true) (hn : s.size = n) (hn9 : n ≤ 1000000000) (hme : p.minExp ≤ 9) (he : e0 = mkB (N.rp 48 p.minExp)) (he9 : e0.size ≤ 9) (ht : t = s ++ ⟨#[69]⟩ ++ ⟨#[43]⟩ ++ e0) (hst : Pst w W pb p) :
    Code.wp Tryd.prog (Pn 10) (bodyPost Tryd.prog Tryd.f14 (PPost t w)) ⟨#[v0, v1, .pointer (some ⟨pb, 0, none⟩), v3, v4, v5, v6, v7, .string s, v9, v10, v11, v12, v13, v14, v15, v16, v17, v18, v19, v20, v21, v22, v23, v24, v25, v26, v27, v28, v29, v30, v31, v32, v33, v34, v35, v36, v37, v38, v39, v40, v41, v42, v43, v44, v45, v46, v47, v48, v49, v50, v51, v52, v53, v54, v55, v56, v57, v58, v59, v60, v61, v62, v63, v64, v65, v66, v67, v68, v69, v70, v71, v72, v73, v74, v75, v76, v77, v78, v79, v80, v81, v82, v83, v84, v85, v86, v87, v88, v89, v90, v91, v92, v93, v94, v95, v96, v97, v98, v99, v100, v101, v102, v103, v104, v105, v106, v107, v108, v109, v110, v111, v112, v113, v114, v115, v116, v117, v118, v119, v120, v121, v122, v123, v124, v125, v126, v127, v128, v129, v130, v131, v132, v133, v134, v135, v136, v137, v138, v139, v140, v141, v142, v143, v144, v145, v146, v147, v148, v149, v150, v151, v152, v153, v154, v155, v156, v157, v158], []⟩ W := by
  have HT := Lib.hid ht
  have p14 := hst.cell 14
  change W.cell? ⟨pb, 14, none⟩ = some (.bool p.sci) at p14
  have p16 := hst.cell 16
  change W.cell? ⟨pb, 16, none⟩ = some (.bool p.plus) at p16
  have p15 := hst.cell 15
  change W.cell? ⟨pb, 15, none⟩ = some (.int .i64 p.minExp) at p15
  rw [hs] at p14
  rw [hp] at p16
  have HS := Lib.hid hst
  have HE := Lib.hid he
  have h69 : (⟨#[69]⟩ : ByteArray).size = 1 := rfl
  have h43 : (⟨#[43]⟩ : ByteArray).size = 1 := rfl
  clear hst ht hs hp he
  rw [show Pn 10 = .seq (stmtOf 10 pnBody) (Pn 11) from by kernel_rfl]
  have hz10 : stmtOf 10 pnBody = stmtOf 10 pnBody := rfl
  conv at hz10 => rhs; whnf
  rw [hz10]; clear hz10
  go_wp2_with (go_at_call 31; (with_reducible refine (rrep_calls 48 _ (by omega) _).mono ?_); rintro e W1 ⟨rfl, rfl⟩; rw [← HE.out])
  exact pn11 w W pb p _ t HT.out HS.out
theorem pn10 (w W : World) (pb : Nat) (p : N.NP) (s t : ByteArray) (hn : s.size ≤ 1000000000) (g : N.Good p) (ht : t = s ++ mkB (N.expP p)) (hst : Pst w W pb p) :
    Code.wp Tryd.prog (Pn 10) (bodyPost Tryd.prog Tryd.f14 (PPost t w)) ⟨#[v0, v1, .pointer (some ⟨pb, 0, none⟩), v3, v4, v5, v6, v7, .string s, v9, v10, v11, v12, v13, v14, v15, v16, v17, v18, v19, v20, v21, v22, v23, v24, v25, v26, v27, v28, v29, v30, v31, v32, v33, v34, v35, v36, v37, v38, v39, v40, v41, v42, v43, v44, v45, v46, v47, v48, v49, v50, v51, v52, v53, v54, v55, v56, v57, v58, v59, v60, v61, v62, v63, v64, v65, v66, v67, v68, v69, v70, v71, v72, v73, v74, v75, v76, v77, v78, v79, v80, v81, v82, v83, v84, v85, v86, v87, v88, v89, v90, v91, v92, v93, v94, v95, v96, v97, v98, v99, v100, v101, v102, v103, v104, v105, v106, v107, v108, v109, v110, v111, v112, v113, v114, v115, v116, v117, v118, v119, v120, v121, v122, v123, v124, v125, v126, v127, v128, v129, v130, v131, v132, v133, v134, v135, v136, v137, v138, v139, v140, v141, v142, v143, v144, v145, v146, v147, v148, v149, v150, v151, v152, v153, v154, v155, v156, v157, v158], []⟩ W := by
  have e9 := g.e9
  have hsz : (mkB (N.rp 48 p.minExp)).size ≤ 9 := by rw [mkB_size, N.rp_len]; omega
  unfold N.expP at ht
  cases hs : p.sci with
  | false =>
    rw [if_neg (by rw [hs]; decide)] at ht
    exact pn10_a w W pb p s t hs (by rw [ht]; exact app_nil s) hst
  | true =>
    rw [if_pos hs] at ht
    cases hp : p.plus with
    | false =>
      rw [if_neg (by rw [hp]; decide)] at ht
      exact pn10_b w W pb p s t _ s.size hs hp rfl hn e9 rfl hsz (by rw [ht, show (⟨#[69]⟩ : ByteArray) = mkB [69] from rfl, ByteArray.append_assoc, mkB_app]; rfl) hst
    | true =>
      rw [if_pos hp] at ht
      exact pn10_c w W pb p s t _ s.size hs hp rfl hn e9 rfl hsz (by rw [ht, show (⟨#[69]⟩ : ByteArray) = mkB [69] from rfl, show (⟨#[43]⟩ : ByteArray) = mkB [43] from rfl, ByteArray.append_assoc, ByteArray.append_assoc, mkB_app, mkB_app]; rfl) hst
/- The fraction. -/
set_option maxHeartbeats 8000000 in
set_option maxRecDepth 1000000 in
theorem pn9_a (w W : World) (pb : Nat) (p : N.NP) (dg s t : ByteArray) (hx : p.maxFrac = 0) (hn : s.size ≤ 1000000000) (g : N.Good p) (ht : t = s ++ mkB (N.expP p)) (hst : Pst w W pb p) :
    Code.wp Tryd.prog (Pn 9) (bodyPost Tryd.prog Tryd.f14 (PPost t w)) ⟨#[v0, v1, .pointer (some ⟨pb, 0, none⟩), v3, v4, .string dg, v6, v7, .string s, v9, v10, v11, v12, v13, v14, v15, v16, v17, v18, v19, v20, v21, v22, v23, v24, v25, v26, v27, v28, v29, v30, v31, v32, v33, v34, v35, v36, v37, v38, v39, v40, v41, v42, v43, v44, v45, v46, v47, v48, v49, v50, v51, v52, v53, v54, v55, v56, v57, v58, v59, v60, v61, v62, v63, v64, v65, v66, v67, v68, v69, v70, v71, v72, v73, v74, v75, v76, v77, v78, v79, v80, v81, v82, v83, v84, v85, v86, v87, v88, v89, v90, v91, v92, v93, v94, v95, v96, v97, v98, v99, v100, v101, v102, v103, v104, v105, v106, v107, v108, v109, v110, v111, v112, v113, v114, v115, v116, v117, v118, v119, v120, v121, v122, v123, v124, v125, v126, v127, v128, v129, v130, v131, v132, v133, v134, v135, v136, v137, v138, v139, v140, v141, v142, v143, v144, v145, v146, v147, v148, v149, v150, v151, v152, v153, v154, v155, v156, v157, v158], []⟩ W := by
  have HT := Lib.hid ht
  have HG := Lib.hid g
  have p8 := hst.cell 8
  change W.cell? ⟨pb, 8, none⟩ = some (.int .i64 p.maxFrac) at p8
  rw [hx] at p8
  change W.cell? ⟨pb, 8, none⟩ = some (.int .i64 0) at p8
  have HS := Lib.hid hst
  clear hst ht hx g
  rw [show Pn 9 = .seq (stmtOf 9 pnBody) (Pn 10) from by kernel_rfl]
  have hz9 : stmtOf 9 pnBody = stmtOf 9 pnBody := rfl
  conv at hz9 => rhs; whnf
  rw [hz9]; clear hz9
  go_wp2
  exact pn10 w W pb p s t hn HG.out HT.out HS.out
set_option maxHeartbeats 8000000 in
set_option maxRecDepth 1000000 in
theorem pn9_b (w W : World) (pb : Nat) (p : N.NP) (dg s t fx r0 : ByteArray) (mi mf xf : Int) (n k1 k2 : Nat) (hmi : mi = (p.minInt : Int)) (hmf : mf = (p.minFrac : Int)) (hxf : xf = (p.maxFrac : Int)) (hx : 0 < xf) (hx9 : xf ≤ 40) (hm0 : 0 ≤ mf) (hm9 : mf ≤ xf) (hn : s.size = n) (hn9 : n ≤ 999999000) (h1 : fx.size = k1) (h19 : k1 ≤ 100) (h2 : r0.size = k2) (h29 : k2 ≤ 100)
    (hsl : ∀ W, (Instr.slice 9 (.string dg) (some (.int .i64 mi)) none none).run Tryd.prog W = .ok (.string fx) W) (hr0 : r0 = mkB (N.rp 35 (xf - mf))) (g : N.Good p) (ht : t = s ++ ⟨#[46]⟩ ++ fx ++ r0 ++ mkB (N.expP p)) (hst : Pst w W pb p) :
    Code.wp Tryd.prog (Pn 9) (bodyPost Tryd.prog Tryd.f14 (PPost t w)) ⟨#[v0, v1, .pointer (some ⟨pb, 0, none⟩), v3, v4, .string dg, v6, v7, .string s, v9, v10, v11, v12, v13, v14, v15, v16, v17, v18, v19, v20, v21, v22, v23, v24, v25, v26, v27, v28, v29, v30, v31, v32, v33, v34, v35, v36, v37, v38, v39, v40, v41, v42, v43, v44, v45, v46, v47, v48, v49, v50, v51, v52, v53, v54, v55, v56, v57, v58, v59, v60, v61, v62, v63, v64, v65, v66, v67, v68, v69, v70, v71, v72, v73, v74, v75, v76, v77, v78, v79, v80, v81, v82, v83, v84, v85, v86, v87, v88, v89, v90, v91, v92, v93, v94, v95, v96, v97, v98, v99, v100, v101, v102, v103, v104, v105, v106, v107, v108, v109, v110, v111, v112, v113, v114, v115, v116, v117, v118, v119, v120, v121, v122, v123, v124, v125, v126, v127, v128, v129, v130, v131, v132, v133, v134, v135, v136, v137, v138, v139, v140, v141, v142, v143, v144, v145, v146, v147, v148, v149, v150, v151, v152, v153, v154, v155, v156, v157, v158], []⟩ W := by
  have HT := Lib.hid ht
  have HG := Lib.hid g
  have p5 := hst.cell 5
  have p7 := hst.cell 7
  have p8 := hst.cell 8
  change W.cell? ⟨pb, 5, none⟩ = some (.int .i64 p.minInt) at p5
  change W.cell? ⟨pb, 7, none⟩ = some (.int .i64 p.minFrac) at p7
  change W.cell? ⟨pb, 8, none⟩ = some (.int .i64 p.maxFrac) at p8
  rw [← hmi] at p5
  rw [← hmf] at p7
  rw [← hxf] at p8
  have hd : decide (0 < xf) = true := decide_eq_true hx
  have hw1 : IntKind.i64.wrap (xf - mf) = xf - mf := IntWalk.i64_in _ (by omega)
  have HREP : Hid (∀ W, Calls Tryd.prog 31 #[.string ⟨#[35]⟩, .int .i64 (xf - mf)] W fun e w' => e = .returned (.string r0) ∧ w' = W) := Lib.hid fun W => by
    rw [hr0]
    exact (rrep_calls 35 (xf - mf) (by omega) W).mono fun e w' ⟨he, hw⟩ => ⟨he, hw.symm⟩
  have h46 : (⟨#[46]⟩ : ByteArray).size = 1 := rfl
  have HS := Lib.hid hst
  clear hst ht hmi hmf hxf hr0 g
  rw [show Pn 9 = .seq (stmtOf 9 pnBody) (Pn 10) from by kernel_rfl]
  have hz9 : stmtOf 9 pnBody = stmtOf 9 pnBody := rfl
  conv at hz9 => rhs; whnf
  rw [hz9]; clear hz9
  go_wp2
  go_quiet ((go_at_call 31; exact Calls.quiet_of_same (HREP.out _)))
  go_wp2
  exact pn10 w _ pb p _ t (by rw [ByteArray.size_append, ByteArray.size_append, ByteArray.size_append, h46]; omega) HG.out HT.out (HS.out.drewN _)
theorem cut_from (s : ByteArray) (i : Nat) (h : i ≤ s.size) : ∀ W, (Instr.slice 9 (.string s) (some (.int .i64 (i : Int))) none none).run Tryd.prog W = .ok (.string (s.extract i s.size)) W := fun W => by
  rw [run_slice_string_from_if (P := Tryd.prog) W 9 s .i64 (i : Int) Tryd.underlying9, if_pos ⟨by omega, by omega⟩, Int.toNat_natCast]
theorem cut_to (s : ByteArray) (i : Nat) (h : i ≤ s.size) : ∀ W, (Instr.slice 9 (.string s) none (some (.int .i64 (i : Int))) none).run Tryd.prog W = .ok (.string (s.extract 0 i)) W := fun W => by
  rw [run_slice_string_to_if (P := Tryd.prog) W 9 s .i64 (i : Int) Tryd.underlying9, if_pos ⟨by omega, by omega⟩, Int.toNat_natCast]
theorem pn9 (w W : World) (pb : Nat) (p : N.NP) (dg s t : ByteArray) (hdg : dg = mkB (N.digitsN p)) (hn : s.size ≤ 999999000) (g : N.Good p) (ht : t = s ++ mkB (N.fracP p) ++ mkB (N.expP p)) (hst : Pst w W pb p) :
    Code.wp Tryd.prog (Pn 9) (bodyPost Tryd.prog Tryd.f14 (PPost t w)) ⟨#[v0, v1, .pointer (some ⟨pb, 0, none⟩), v3, v4, .string dg, v6, v7, .string s, v9, v10, v11, v12, v13, v14, v15, v16, v17, v18, v19, v20, v21, v22, v23, v24, v25, v26, v27, v28, v29, v30, v31, v32, v33, v34, v35, v36, v37, v38, v39, v40, v41, v42, v43, v44, v45, v46, v47, v48, v49, v50, v51, v52, v53, v54, v55, v56, v57, v58, v59, v60, v61, v62, v63, v64, v65, v66, v67, v68, v69, v70, v71, v72, v73, v74, v75, v76, v77, v78, v79, v80, v81, v82, v83, v84, v85, v86, v87, v88, v89, v90, v91, v92, v93, v94, v95, v96, v97, v98, v99, v100, v101, v102, v103, v104, v105, v106, v107, v108, v109, v110, v111, v112, v113, v114, v115, v116, v117, v118, v119, v120, v121, v122, v123, v124, v125, v126, v127, v128, v129, v130, v131, v132, v133, v134, v135, v136, v137, v138, v139, v140, v141, v142, v143, v144, v145, v146, v147, v148, v149, v150, v151, v152, v153, v154, v155, v156, v157, v158], []⟩ W := by
  unfold N.fracP at ht
  by_cases h0 : 0 < p.maxFrac
  · rw [if_pos h0] at ht
    have g1 := g.f40
    have g2 := g.ff
    have g3 := g.i40
    have hl := N.digits_len g
    have hdl : dg.size = p.minInt + p.minFrac := by rw [hdg, mkB_size, hl]
    have hsl := cut_from dg p.minInt (by omega)
    have hfx : dg.extract p.minInt dg.size = mkB ((N.digitsN p).drop p.minInt) := by rw [hdg]; exact mkB_from _ _
    refine pn9_b w W pb p dg s t _ _ _ _ _ s.size _ _ rfl rfl rfl (by omega) (by omega) (by omega) (by omega) rfl hn rfl ?_ rfl ?_ hsl rfl g ?_ hst
    · rw [ByteArray.size_extract]; omega
    · rw [mkB_size, N.rp_len]; omega
    · rw [ht, hfx, show (⟨#[46]⟩ : ByteArray) = mkB [46] from rfl]
      simp only [ByteArray.append_assoc, mkB_app, List.append_assoc, List.cons_append, List.nil_append]
  · rw [if_neg h0, app_nil] at ht
    exact pn9_a w W pb p dg s t (by omega) (by omega) g ht hst
/-! ### the commas -/
def cmC (a b n i : Nat) : Prop := 0 < a ∧ n - i < n ∧ (n - i = a ∨ b ≠ a ∧ n - i = a + b)
theorem rc_step (wh sb T : ByteArray) (a b i n : Nat) (hn : wh.size = n) (hi : i < n) (h : sb ++ mkB (N.refCommas (N.L wh) a b (n - i)) = T) :
    (cmC a b n i → (sb ++ ⟨#[44]⟩ ++ wh.extract i (i + 1)) ++ mkB (N.refCommas (N.L wh) a b (n - (i + 1))) = T) ∧ (¬ cmC a b n i → (sb ++ wh.extract i (i + 1)) ++ mkB (N.refCommas (N.L wh) a b (n - (i + 1))) = T) := by
  obtain ⟨k, hk⟩ : ∃ k, n - i = k + 1 := ⟨n - i - 1, by omega⟩
  have hk2 : n - (i + 1) = k := by omega
  have hl : (N.L wh).length = n := by rw [N.L_len]; exact hn
  have hib : i < wh.size := by omega
  have hg : (N.L wh).getD (n - (k + 1)) 0 = wh[i]'hib := by
    rw [show n - (k + 1) = i by omega, List.getD_eq_getElem?_getD, List.getElem?_eq_getElem (by rw [hl]; exact hi)]
    rfl
  unfold cmC
  rw [hk2, hk]
  rw [hk] at h
  unfold N.refCommas at h
  rw [hl, hg] at h
  rw [ext_one wh i hib, show (⟨#[44]⟩ : ByteArray) = mkB [44] from rfl]
  constructor
  · intro hc
    rw [if_pos hc] at h
    rw [← h, ByteArray.append_assoc, ByteArray.append_assoc, mkB_app, mkB_app]
    rfl
  · intro hc
    rw [if_neg hc] at h
    rw [← h, ByteArray.append_assoc, mkB_app]
    rfl
set_option maxHeartbeats 8000000 in
set_option maxRecDepth 1000000 in
theorem pn7 (w W : World) (pb : Nat) (p : N.NP) (dg wh t T : ByteArray) (n : Nat) (hn : wh.size = n) (hn9 : n ≤ 1000000) (hdg : dg = mkB (N.digitsN p)) (g : N.Good p) (hT : T = mkB (N.refCommas (N.L wh) p.prim p.sec n)) (ht : t = T ++ mkB (N.fracP p) ++ mkB (N.expP p)) (hst : Pst w W pb p) :
    Code.wp Tryd.prog (Pn 7) (bodyPost Tryd.prog Tryd.f14 (PPost t w)) ⟨#[v0, v1, .pointer (some ⟨pb, 0, none⟩), v3, v4, .string dg, .string wh, v7, v8, v9, v10, v11, v12, v13, v14, v15, v16, v17, v18, v19, v20, v21, v22, v23, v24, v25, v26, v27, v28, v29, v30, v31, v32, v33, v34, v35, v36, v37, v38, v39, v40, v41, v42, v43, v44, v45, v46, v47, v48, v49, v50, v51, v52, v53, v54, v55, v56, v57, v58, v59, v60, v61, v62, v63, v64, v65, v66, v67, v68, v69, v70, v71, v72, v73, v74, v75, v76, v77, v78, v79, v80, v81, v82, v83, v84, v85, v86, v87, v88, v89, v90, v91, v92, v93, v94, v95, v96, v97, v98, v99, v100, v101, v102, v103, v104, v105, v106, v107, v108, v109, v110, v111, v112, v113, v114, v115, v116, v117, v118, v119, v120, v121, v122, v123, v124, v125, v126, v127, v128, v129, v130, v131, v132, v133, v134, v135, v136, v137, v138, v139, v140, v141, v142, v143, v144, v145, v146, v147, v148, v149, v150, v151, v152, v153, v154, v155, v156, v157, v158], []⟩ W := by
  have HTT := Lib.hid hT
  have HT := Lib.hid ht
  have HG := Lib.hid g
  have HD := Lib.hid hdg
  have HS := Lib.hid hst
  have g1 := g.p40
  have g2 := g.q40
  have p11 := hst.cell 11
  have p12 := hst.cell 12
  change W.cell? ⟨pb, 11, none⟩ = some (.int .i64 p.prim) at p11
  change W.cell? ⟨pb, 12, none⟩ = some (.int .i64 p.sec) at p12
  obtain ⟨a, ha⟩ : ∃ a : Nat, a = p.prim := ⟨_, rfl⟩
  obtain ⟨b, hb⟩ : ∃ b : Nat, b = p.sec := ⟨_, rfl⟩
  obtain ⟨za, hza⟩ : ∃ za : Int, za = (a : Int) := ⟨_, rfl⟩
  obtain ⟨zb, hzb⟩ : ∃ zb : Int, zb = (b : Int) := ⟨_, rfl⟩
  rw [← ha] at g1 p11 hT
  rw [← hb] at g2 p12 hT
  rw [← hza] at p11
  rw [← hzb] at p12
  have b1 : 0 ≤ za ∧ za ≤ 40 := by omega
  have b2 : 0 ≤ zb ∧ zb ≤ 40 := by omega
  have HZA := Lib.hid hza
  have HZB := Lib.hid hzb
  have HRC := Lib.hid hT
  clear ht g hdg hst hT ha hb hza hzb
  obtain ⟨b10, b11⟩ := b1
  obtain ⟨b20, b21⟩ := b2
  rw [show Pn 7 = .seq (stmtOf 7 pnBody) (.seq (stmtOf 8 pnBody) (Pn 9)) from by kernel_rfl]
  have hz7 : stmtOf 7 pnBody = stmtOf 7 pnBody := rfl
  conv at hz7 => rhs; whnf
  rw [hz7]; clear hz7
  have hz8 : stmtOf 8 pnBody = stmtOf 8 pnBody := rfl
  conv at hz8 => rhs; whnf
  rw [hz8]; clear hz8
  go_wp2
  go_loop [8, 9] (fun v8 v9 => ∃ (i : Nat) (sb : ByteArray), v9 = .int .i64 (i : Int) ∧ v8 = .string sb ∧ i ≤ n ∧ sb.size ≤ 2 * i ∧ Hid (sb ++ mkB (N.refCommas (N.L wh) a b (n - i)) = T)) (fun _ v9 => n - (RowKit.intOf v9).toNat)
  case atStart => exact ⟨0, ⟨#[]⟩, rfl, rfl, by omega, by decide, Lib.hid (by rw [HRC.out]; exact ByteArray.empty_append)⟩
  case round =>
    obtain ⟨i, sb, rfl, rfl, hi, hs, HB⟩ := hrel
    by_cases hin : i < n
    · have hib : i < wh.size := by omega
      have hx1 : (wh.extract i (i + 1)).size = 1 := by rw [ByteArray.size_extract]; omega
      have h44 : (⟨#[44]⟩ : ByteArray).size = 1 := rfl
      have hsl := cut_one wh i hib
      have hstep := rc_step wh sb T a b i n hn hin HB.out
      have HST := Lib.hid hstep
      clear hstep
      have hways : (¬ cmC a b n i ∧ decide (0 < za) = false) ∨ (¬ cmC a b n i ∧ decide (0 < za) = true ∧ i = 0) ∨
          (cmC a b n i ∧ decide (0 < za) = true ∧ 0 < i ∧ ((n : Int) - (i : Int) == za) = true) ∨
          (¬ cmC a b n i ∧ decide (0 < za) = true ∧ 0 < i ∧ ((n : Int) - (i : Int) == za) = false ∧ (zb != za) = false) ∨
          (cmC a b n i ∧ decide (0 < za) = true ∧ 0 < i ∧ ((n : Int) - (i : Int) == za) = false ∧ (zb != za) = true ∧ ((n : Int) - (i : Int) == za + zb) = true) ∨
          (¬ cmC a b n i ∧ decide (0 < za) = true ∧ 0 < i ∧ ((n : Int) - (i : Int) == za) = false ∧ (zb != za) = true ∧ ((n : Int) - (i : Int) == za + zb) = false) := by
        have e1 := HZA.out
        have e2 := HZB.out
        unfold cmC
        simp only [decide_eq_true_eq, decide_eq_false_iff_not, beq_iff_eq, beq_eq_false_iff_ne, bne_iff_ne, bne_eq_false_iff_eq, ne_eq]
        omega
      rcases hways with ⟨hc, t1⟩ | ⟨hc, t1, t2⟩ | ⟨hc, t1, t2, t3⟩ | ⟨hc, t1, t2, t3, t4⟩ | ⟨hc, t1, t2, t3, t4, t5⟩ | ⟨hc, t1, t2, t3, t4, t5⟩
      · have HC := Lib.hid (HST.out.2 hc)
        clear hc
        go_wp2
        go_round
        case rel => exact ⟨i + 1, _, by go_num, rfl, by omega, by rw [ByteArray.size_append, hx1]; omega, HC⟩
        case measure => simp [RowKit.intOf] <;> omega
      · have HC := Lib.hid (HST.out.2 hc)
        subst t2
        have hsl0 : ∀ W, (Instr.slice 9 (.string wh) (some (.int .i64 0)) (some (.int .i64 1)) none).run Tryd.prog W = .ok (.string (wh.extract 0 1)) W := fun W => hsl W
        clear hc
        go_wp2
        go_round
        case rel => exact ⟨1, _, by go_num, rfl, by omega, by rw [ByteArray.size_append, hx1]; omega, HC⟩
        case measure => simp [RowKit.intOf] <;> omega
      · have HC := Lib.hid (HST.out.1 hc)
        clear hc
        go_wp2
        go_round
        case rel => exact ⟨i + 1, _, by go_num, rfl, by omega, by rw [ByteArray.size_append, ByteArray.size_append, hx1, h44]; omega, HC⟩
        case measure => simp [RowKit.intOf] <;> omega
      · have HC := Lib.hid (HST.out.2 hc)
        clear hc
        go_wp2
        go_round
        case rel => exact ⟨i + 1, _, by go_num, rfl, by omega, by rw [ByteArray.size_append, hx1]; omega, HC⟩
        case measure => simp [RowKit.intOf] <;> omega
      · have HC := Lib.hid (HST.out.1 hc)
        clear hc
        go_wp2
        go_round
        case rel => exact ⟨i + 1, _, by go_num, rfl, by omega, by rw [ByteArray.size_append, ByteArray.size_append, hx1, h44]; omega, HC⟩
        case measure => simp [RowKit.intOf] <;> omega
      · have HC := Lib.hid (HST.out.2 hc)
        clear hc
        go_wp2
        go_round
        case rel => exact ⟨i + 1, _, by go_num, rfl, by omega, by rw [ByteArray.size_append, hx1]; omega, HC⟩
        case measure => simp [RowKit.intOf] <;> omega
    · obtain rfl : i = n := by omega
      have hsb : sb = T := by
        have := HB.out
        rw [Nat.sub_self] at this
        rw [← this]
        exact (app_nil sb).symm
      have HSB := Lib.hid hsb
      clear hsb
      go_wp2
      exact pn9 w W pb p dg sb t HD.out (by omega) HG.out (by rw [HT.out, HSB.out]) HS.out
end Go.Proofs.YtgobcejjefgkcaaDoor.Print
