/- The reference's PrintNumber: its beginning. Frames printed by this session's own program (wip/tools/mk_pn.py). -/
import Derived.Test.YtgobcejjefgkcaaDoorNpm
import Derived.Deep.QuietTactic
import Derived.BigQuiet
namespace Go.Proofs.YtgobcejjefgkcaaDoor.Print
open Go.RowKit Go.Proofs.YtgobcejjefgkcaaDoorW.PrintWords Go.Proofs.YtgobcejjefgkcaaDoorW.PrintLast Go.Proofs.YtgobcejjefgkcaaDoorW.PrintMore
set_option linter.unusedVariables false
set_option linter.unusedSimpArgs false
variable {v0 v1 v2 v3 v4 v5 v6 v7 v8 v9 v10 v11 v12 v13 v14 v15 v16 v17 v18 v19 v20 v21 v22 v23 v24 v25 v26 v27 v28 v29 v30 v31 v32 v33 v34 v35 v36 v37 v38 v39 v40 v41 v42 v43 v44 v45 v46 v47 v48 v49 v50 v51 v52 v53 v54 v55 v56 v57 v58 v59 v60 v61 v62 v63 v64 v65 v66 v67 v68 v69 v70 v71 v72 v73 v74 v75 v76 v77 v78 v79 v80 v81 v82 v83 v84 v85 v86 v87 v88 v89 v90 v91 v92 v93 v94 v95 v96 v97 v98 v99 v100 v101 v102 v103 v104 v105 v106 v107 v108 v109 v110 v111 v112 v113 v114 v115 v116 v117 v118 v119 v120 v121 v122 v123 v124 v125 v126 v127 v128 v129 v130 v131 v132 v133 v134 v135 v136 v137 v138 v139 v140 v141 v142 v143 v144 v145 v146 v147 v148 v149 v150 v151 v152 v153 v154 v155 v156 v157 v158 : Value}

/-! ### the whole part -/
set_option maxHeartbeats 8000000 in
set_option maxRecDepth 1000000 in
theorem pn2_w (w W : World) (pb : Nat) (p : N.NP) (m mi ms xs : Int) (dg d1 r1 r2 t : ByteArray) (k1 k2 k3 : Nat) (hm : m ≤ 100) (hmi : mi = (p.minInt : Int)) (hms : ms = (p.minSig : Int)) (hxs : xs = (p.maxSig : Int)) (hms0 : 0 ≤ ms) (hmx : ms ≤ xs) (hx9 : xs ≤ 40) (h1 : d1.size = k1) (h19 : k1 ≤ 100) (h2 : r1.size = k2) (h29 : k2 ≤ 100) (h3 : r2.size = k3) (h39 : k3 ≤ 100)
    (hsl : ∀ W, (Instr.slice 9 (.string dg) none (some (.int .i64 mi)) none).run Tryd.prog W = .ok (.string d1) W) (hr1 : r1 = mkB (N.rp 64 ms)) (hr2 : r2 = mkB (N.rp 35 (xs - ms))) (hwp : d1 ++ r1 ++ r2 = mkB (N.wholeP p)) (hdg : dg = mkB (N.digitsN p)) (g : N.Good p)
    (ht : t = mkB (N.refCommas (N.moreP p m) p.prim p.sec (N.moreP p m).length) ++ mkB (N.fracP p) ++ mkB (N.expP p)) (hst : Pst w W pb p) :
    Code.wp Tryd.prog (Pn 2) (bodyPost Tryd.prog Tryd.f14 (PPost t w)) ⟨#[v0, .int .i64 m, .pointer (some ⟨pb, 0, none⟩), v3, v4, .string dg, v6, v7, v8, v9, v10, v11, v12, v13, v14, v15, v16, v17, v18, v19, v20, v21, v22, v23, v24, v25, v26, v27, v28, v29, v30, v31, v32, v33, v34, v35, v36, v37, v38, v39, v40, v41, v42, v43, v44, v45, v46, v47, v48, v49, v50, v51, v52, v53, v54, v55, v56, v57, v58, v59, v60, v61, v62, v63, v64, v65, v66, v67, v68, v69, v70, v71, v72, v73, v74, v75, v76, v77, v78, v79, v80, v81, v82, v83, v84, v85, v86, v87, v88, v89, v90, v91, v92, v93, v94, v95, v96, v97, v98, v99, v100, v101, v102, v103, v104, v105, v106, v107, v108, v109, v110, v111, v112, v113, v114, v115, v116, v117, v118, v119, v120, v121, v122, v123, v124, v125, v126, v127, v128, v129, v130, v131, v132, v133, v134, v135, v136, v137, v138, v139, v140, v141, v142, v143, v144, v145, v146, v147, v148, v149, v150, v151, v152, v153, v154, v155, v156, v157, v158], []⟩ W := by
  have HT := Lib.hid ht
  have HG := Lib.hid g
  have HD := Lib.hid hdg
  have HWP := Lib.hid hwp
  have p5 := hst.cell 5
  have p9 := hst.cell 9
  have p10 := hst.cell 10
  change W.cell? ⟨pb, 5, none⟩ = some (.int .i64 p.minInt) at p5
  change W.cell? ⟨pb, 9, none⟩ = some (.int .i64 p.minSig) at p9
  change W.cell? ⟨pb, 10, none⟩ = some (.int .i64 p.maxSig) at p10
  rw [← hmi] at p5
  rw [← hms] at p9
  rw [← hxs] at p10
  have hw1 : IntKind.i64.wrap (xs - ms) = xs - ms := IntWalk.i64_in _ (by omega)
  have HR1 : Hid (∀ W, Calls Tryd.prog 31 #[.string ⟨#[64]⟩, .int .i64 ms] W fun e w' => e = .returned (.string r1) ∧ w' = W) := Lib.hid fun W => by
    rw [hr1]
    exact (rrep_calls 64 ms (by omega) W).mono fun e w' ⟨he, hw⟩ => ⟨he, hw.symm⟩
  have HR2 : Hid (∀ W, Calls Tryd.prog 31 #[.string ⟨#[35]⟩, .int .i64 (xs - ms)] W fun e w' => e = .returned (.string r2) ∧ w' = W) := Lib.hid fun W => by
    rw [hr2]
    exact (rrep_calls 35 (xs - ms) (by omega) W).mono fun e w' ⟨he, hw⟩ => ⟨he, hw.symm⟩
  have HS := Lib.hid hst
  clear hst ht hmi hms hxs hr1 hr2 g hdg hwp
  rw [show Pn 2 = .seq (stmtOf 2 pnBody) (Pn 3) from by kernel_rfl]
  have hz2 : stmtOf 2 pnBody = stmtOf 2 pnBody := rfl
  conv at hz2 => rhs; whnf
  rw [hz2]; clear hz2
  go_wp2
  go_quiet ((first | (go_at_call 31; (with_reducible exact Calls.quiet_of_same (HR1.out _))) | (go_at_call 31; (with_reducible exact Calls.quiet_of_same (HR2.out _)))))
  go_wp2
  exact pn3 w _ pb p m dg _ t hm HWP.out HD.out HG.out HT.out (HS.out.drewN _)
theorem whole_is {p : N.NP} (g : N.Good p) : mkB ((N.digitsN p).take p.minInt) ++ mkB (N.rp 64 p.minSig) ++ mkB (N.rp 35 ((p.maxSig : Int) - p.minSig)) = mkB (N.wholeP p) := by
  rw [mkB_app, mkB_app]
  by_cases h : 0 < p.minSig
  · rw [N.wholeP_sig h, (g.sg h).1]; rfl
  · rw [N.wholeP_dig h]
    have h0 : p.minSig = 0 := by omega
    have h1 := g.s0 h0
    rw [h0, h1, N.rp_nil 64 (by omega), N.rp_nil 35 (by omega), List.append_nil, List.append_nil]
theorem pn2 (w W : World) (pb : Nat) (p : N.NP) (m : Int) (dg t : ByteArray) (hm : m ≤ 100) (hdg : dg = mkB (N.digitsN p)) (g : N.Good p)
    (ht : t = mkB (N.refCommas (N.moreP p m) p.prim p.sec (N.moreP p m).length) ++ mkB (N.fracP p) ++ mkB (N.expP p)) (hst : Pst w W pb p) :
    Code.wp Tryd.prog (Pn 2) (bodyPost Tryd.prog Tryd.f14 (PPost t w)) ⟨#[v0, .int .i64 m, .pointer (some ⟨pb, 0, none⟩), v3, v4, .string dg, v6, v7, v8, v9, v10, v11, v12, v13, v14, v15, v16, v17, v18, v19, v20, v21, v22, v23, v24, v25, v26, v27, v28, v29, v30, v31, v32, v33, v34, v35, v36, v37, v38, v39, v40, v41, v42, v43, v44, v45, v46, v47, v48, v49, v50, v51, v52, v53, v54, v55, v56, v57, v58, v59, v60, v61, v62, v63, v64, v65, v66, v67, v68, v69, v70, v71, v72, v73, v74, v75, v76, v77, v78, v79, v80, v81, v82, v83, v84, v85, v86, v87, v88, v89, v90, v91, v92, v93, v94, v95, v96, v97, v98, v99, v100, v101, v102, v103, v104, v105, v106, v107, v108, v109, v110, v111, v112, v113, v114, v115, v116, v117, v118, v119, v120, v121, v122, v123, v124, v125, v126, v127, v128, v129, v130, v131, v132, v133, v134, v135, v136, v137, v138, v139, v140, v141, v142, v143, v144, v145, v146, v147, v148, v149, v150, v151, v152, v153, v154, v155, v156, v157, v158], []⟩ W := by
  have g1 := g.i40
  have g2 := g.s40
  have g3 := g.ss
  have hdl : dg.size = p.minInt + p.minFrac := by rw [hdg, mkB_size, N.digits_len g]
  have hd1 : dg.extract 0 p.minInt = mkB ((N.digitsN p).take p.minInt) := by rw [hdg]; exact mkB_to _ _
  refine pn2_w w W pb p m _ _ _ dg _ _ _ t _ _ _ hm rfl rfl rfl (by omega) (by omega) (by omega) rfl ?_ rfl ?_ rfl ?_ (cut_to dg p.minInt (by omega)) rfl rfl ?_ hdg g ht hst
  · rw [ByteArray.size_extract]; omega
  · rw [mkB_size, N.rp_len]; omega
  · rw [mkB_size, N.rp_len]; omega
  · rw [hd1]; exact whole_is g
set_option maxHeartbeats 8000000 in
set_option maxRecDepth 1000000 in
theorem pn1_w (w W : World) (pb : Nat) (p : N.NP) (m mi mf : Int) (icb r0 dg t : ByteArray) (k0 k1 : Nat) (hm : m ≤ 100) (hmi : mi = (p.minInt : Int)) (hmf : mf = (p.minFrac : Int)) (hic : icb = mkB p.inc) (hi0 : 0 ≤ mi) (hi9 : mi ≤ 40) (hf0 : 0 ≤ mf) (hf9 : mf ≤ 40) (h0 : icb.size = k0) (h09 : k0 ≤ 40) (h1 : r0.size = k1) (h19 : k1 ≤ 100)
    (hr0 : r0 = mkB (N.rp 48 (mi + mf - (k0 : Int)))) (hdg : r0 ++ icb = dg) (hdg2 : dg = mkB (N.digitsN p)) (g : N.Good p)
    (ht : t = mkB (N.refCommas (N.moreP p m) p.prim p.sec (N.moreP p m).length) ++ mkB (N.fracP p) ++ mkB (N.expP p)) (hst : Pst w W pb p) :
    Code.wp Tryd.prog (Pn 1) (bodyPost Tryd.prog Tryd.f14 (PPost t w)) ⟨#[v0, .int .i64 m, .pointer (some ⟨pb, 0, none⟩), v3, v4, v5, v6, v7, v8, v9, v10, v11, v12, v13, v14, v15, v16, v17, v18, v19, v20, v21, v22, v23, v24, v25, v26, v27, v28, v29, v30, v31, v32, v33, v34, v35, v36, v37, v38, v39, v40, v41, v42, v43, v44, v45, v46, v47, v48, v49, v50, v51, v52, v53, v54, v55, v56, v57, v58, v59, v60, v61, v62, v63, v64, v65, v66, v67, v68, v69, v70, v71, v72, v73, v74, v75, v76, v77, v78, v79, v80, v81, v82, v83, v84, v85, v86, v87, v88, v89, v90, v91, v92, v93, v94, v95, v96, v97, v98, v99, v100, v101, v102, v103, v104, v105, v106, v107, v108, v109, v110, v111, v112, v113, v114, v115, v116, v117, v118, v119, v120, v121, v122, v123, v124, v125, v126, v127, v128, v129, v130, v131, v132, v133, v134, v135, v136, v137, v138, v139, v140, v141, v142, v143, v144, v145, v146, v147, v148, v149, v150, v151, v152, v153, v154, v155, v156, v157, v158], []⟩ W := by
  have HT := Lib.hid ht
  have HG := Lib.hid g
  have HD := Lib.hid hdg
  have HD2 := Lib.hid hdg2
  have p5 := hst.cell 5
  have p7 := hst.cell 7
  have p13 := hst.cell 13
  change W.cell? ⟨pb, 5, none⟩ = some (.int .i64 p.minInt) at p5
  change W.cell? ⟨pb, 7, none⟩ = some (.int .i64 p.minFrac) at p7
  change W.cell? ⟨pb, 13, none⟩ = some (.string (mkB p.inc)) at p13
  rw [← hmi] at p5
  rw [← hmf] at p7
  rw [← hic] at p13
  have hw1 : IntKind.i64.wrap (mi + mf) = mi + mf := IntWalk.i64_in _ (by omega)
  have hw2 : IntKind.i64.wrap (mi + mf - (k0 : Int)) = mi + mf - (k0 : Int) := IntWalk.i64_in _ (by omega)
  have HR0 : Hid (∀ W, Calls Tryd.prog 31 #[.string ⟨#[48]⟩, .int .i64 (mi + mf - (k0 : Int))] W fun e w' => e = .returned (.string r0) ∧ w' = W) := Lib.hid fun W => by
    rw [hr0]
    exact (rrep_calls 48 _ (by omega) W).mono fun e w' ⟨he, hw⟩ => ⟨he, hw.symm⟩
  have HS := Lib.hid hst
  clear hst ht hmi hmf hic hr0 g hdg hdg2
  rw [show Pn 1 = .seq (stmtOf 1 pnBody) (Pn 2) from by kernel_rfl]
  have hz1 : stmtOf 1 pnBody = stmtOf 1 pnBody := rfl
  conv at hz1 => rhs; whnf
  rw [hz1]; clear hz1
  go_wp2
  go_quiet ((go_at_call 31; (with_reducible exact Calls.quiet_of_same (HR0.out _))))
  go_wp2
  rw [HD.out]
  exact pn2 w _ pb p m dg t hm HD2.out HG.out HT.out (HS.out.drewN _)
theorem pn1 (w W : World) (pb : Nat) (p : N.NP) (m : Int) (t : ByteArray) (hm : m ≤ 100) (g : N.Good p)
    (ht : t = mkB (N.refCommas (N.moreP p m) p.prim p.sec (N.moreP p m).length) ++ mkB (N.fracP p) ++ mkB (N.expP p)) (hst : Pst w W pb p) :
    Code.wp Tryd.prog (Pn 1) (bodyPost Tryd.prog Tryd.f14 (PPost t w)) ⟨#[v0, .int .i64 m, .pointer (some ⟨pb, 0, none⟩), v3, v4, v5, v6, v7, v8, v9, v10, v11, v12, v13, v14, v15, v16, v17, v18, v19, v20, v21, v22, v23, v24, v25, v26, v27, v28, v29, v30, v31, v32, v33, v34, v35, v36, v37, v38, v39, v40, v41, v42, v43, v44, v45, v46, v47, v48, v49, v50, v51, v52, v53, v54, v55, v56, v57, v58, v59, v60, v61, v62, v63, v64, v65, v66, v67, v68, v69, v70, v71, v72, v73, v74, v75, v76, v77, v78, v79, v80, v81, v82, v83, v84, v85, v86, v87, v88, v89, v90, v91, v92, v93, v94, v95, v96, v97, v98, v99, v100, v101, v102, v103, v104, v105, v106, v107, v108, v109, v110, v111, v112, v113, v114, v115, v116, v117, v118, v119, v120, v121, v122, v123, v124, v125, v126, v127, v128, v129, v130, v131, v132, v133, v134, v135, v136, v137, v138, v139, v140, v141, v142, v143, v144, v145, v146, v147, v148, v149, v150, v151, v152, v153, v154, v155, v156, v157, v158], []⟩ W := by
  have g1 := g.i40
  have g2 := g.f40
  have g3 := g.ff
  have g4 := g.n40
  refine pn1_w w W pb p m _ _ _ _ (mkB (N.digitsN p)) t _ _ hm rfl rfl rfl (by omega) (by omega) (by omega) (by omega) rfl (by rw [mkB_size]; exact g4) rfl ?_ rfl ?_ rfl g ht hst
  · rw [mkB_size, N.rp_len]; omega
  · rw [mkB_app, mkB_size]; rfl
theorem print_is {p : N.NP} (g : N.Good p) (m : Int) : mkB (N.refCommas (N.moreP p m) p.prim p.sec (N.moreP p m).length) ++ mkB (N.fracP p) ++ mkB (N.expP p) = mkB (N.printN p m) := by
  rw [N.ref_commas _ _ _ g.pq (N.more_long g m), mkB_app, mkB_app]
  unfold N.printN
  rw [List.append_assoc]
set_option maxHeartbeats 8000000 in
set_option maxRecDepth 1000000 in
/-- The reference prints the same. -/
theorem refprint_calls (p : N.NP) (g : N.Good p) (m : Int) (hm : m ≤ 100) (w : World) :
    Calls Tryd.prog 14 #[.agg (patN p), .int .i64 m] w fun e w' => e = .returned (.string (mkB (N.printN p m))) ∧ Below w.heap.size w w' := by
  have hpost : ∀ e w', PPost (mkB (N.printN p m)) w e w' → e = .returned (.string (mkB (N.printN p m))) ∧ Below w.heap.size w w' := fun e w' h => h
  refine Calls.mono ?_ hpost
  clear hpost
  obtain ⟨V, hV⟩ : ∃ V, V = w.alloc (.cells (patN p) 25 (0, 0)) := ⟨_, rfl⟩
  have hst : Pst w V w.heap.size p := by
    rw [hV]
    exact ⟨(Below.refl w.heap.size w).alloc (Nat.le_refl _) _, heap_alloc_new w _⟩
  have HS := Lib.hid hst
  have HG := Lib.hid g
  have HT := Lib.hid (print_is g m).symm
  have hvw := hV.symm
  clear hV hst g
  refine calls_of_wp (c := Pn 0) Tryd.func14 (by kernel_rfl) ?_
  simp only [Tryd.ntmps14, List.size_toArray, List.length_cons, List.length_nil, Nat.reduceAdd, Nat.reduceSub, Array.replicate_succ, Array.replicate_zero, List.push_toArray, List.append_toArray, List.nil_append, List.cons_append]
  rw [show Pn 0 = .seq (stmtOf 0 pnBody) (Pn 1) from by kernel_rfl]
  have hz0 : stmtOf 0 pnBody = stmtOf 0 pnBody := rfl
  conv at hz0 => rhs; whnf
  rw [hz0]; clear hz0
  go_wp2
  exact pn1 w V _ p m _ hm HG.out HT.out HS.out
end Go.Proofs.YtgobcejjefgkcaaDoor.Print
