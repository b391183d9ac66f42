/- The reference's Compile: its halves, its elements, its contract. (Several texts, merged by this session's own program.) -/
import Derived.Test.YtkgdpgoianimjaaKc4
namespace Go.Proofs.Ytkgdpgoianimjaa.Print
variable {v0 v1 v2 v3 v4 v5 v6 v7 v8 v9 v10 v11 v12 v13 v14 v15 v16 v17 v18 v19 v20 v21 v22 v23 v24 v25 v26 v27 v28 v29 v30 v31 v32 v33 v34 v35 v36 v37 v38 v39 v40 v41 v42 v43 v44 v45 v46 v47 v48 v49 v50 v51 v52 v53 v54 v55 v56 v57 v58 v59 v60 v61 v62 v63 v64 v65 v66 v67 v68 v69 v70 v71 v72 v73 v74 v75 v76 v77 v78 v79 v80 v81 v82 v83 v84 v85 v86 v87 v88 v89 v90 v91 v92 v93 v94 v95 v96 v97 v98 v99 v100 v101 v102 v103 v104 v105 v106 v107 v108 v109 v110 v111 v112 v113 v114 v115 v116 v117 v118 v119 v120 v121 v122 v123 v124 v125 v126 v127 v128 v129 v130 v131 v132 v133 v134 v135 v136 v137 v138 v139 v140 v141 v142 v143 v144 v145 v146 v147 v148 v149 v150 v151 v152 v153 v154 v155 v156 v157 v158 v159 v160 v161 v162 v163 v164 v165 v166 v167 v168 v169 v170 v171 v172 v173 v174 v175 v176 v177 v178 v179 : Value}
open Go.RowKit Go.Proofs.Ytkgdpgoianimjaa.Utf Go.Proofs.YtkgdpgoianimjaaW.PrintWords Go.Proofs.YtkgdpgoianimjaaW.PrintLast Go.Proofs.YtkgdpgoianimjaaW.PrintMore
set_option linter.unusedVariables false
set_option linter.unusedSimpArgs false
theorem itemsGo_len : ∀ (l : List S48) (acc : List S57), (itemsGo l acc).1.length ≤ 40
  | [], acc => by
    unfold itemsGo
    by_cases h : acc.length > 40
    · rw [if_pos h]; simp
    · rw [if_neg h]; simp at h ⊢; omega
  | x :: t, acc => by
    unfold itemsGo
    cases itemTk x with
    | none => simp
    | some a => exact itemsGo_len t _
theorem half_len {l : List El} {first : Bool} {b : HalfR} (h : halfF l first = some b) : b.pre.length ≤ 40 ∧ b.suf.length ≤ 40 := by
  unfold halfF h3 at h
  split at h
  · cases h
  unfold h9 at h
  split at h
  · cases h
  unfold h12 h13 at h
  split at h
  · unfold h15 at h
    split at h
    · unfold h17 at h
      split at h
      · obtain rfl := (Option.some.inj h).symm
        exact ⟨itemsGo_len _ _, itemsGo_len _ _⟩
      · cases h
    · cases h
  · cases h
/-- The first half, in its variable. -/
structure Ch (w W : World) (hb : Nat) (u0 u1 : Value) (a : HalfR) : Prop where
  hlo : w.heap.size ≤ hb
  hh : W.heap[hb]? = some (.cells (halfC u0 u1 a.num a.at_ a.pad a.long) 53 (0, 0))
  R0 : Kd.R k57 57 W w.heap.size (fun _ => True) u0 a.pre
  R1 : Kd.R k57 57 W w.heap.size (fun _ => True) u1 a.suf
  l0 : a.pre.length ≤ 40
  l1 : a.suf.length ≤ 40
theorem Ch.step {w W W' : World} {hb : Nat} {u0 u1 : Value} {a : HalfR} (h : Ch w W hb u0 u1 a) (b : Below W.heap.size W W') : Ch w W' hb u0 u1 a :=
  ⟨h.hlo, heap_keeps b h.hh, Kd.R_below h.R0 b, Kd.R_below h.R1 b, h.l0, h.l1⟩
theorem Ch.other {w W W' : World} {hb : Nat} {u0 u1 : Value} {a : HalfR} (h : Ch w W hb u0 u1 a) {g t : Nat} {c : Array Value} (hg : W.heap[g]? = some (.cells c t (0, 0))) (ht : ∀ q, q ∈ 57 :: k57.E → q ≠ t) (hp : PutAt g W W') (hn : hb ≠ g) : Ch w W' hb u0 u1 a :=
  ⟨h.hlo, hp.other h.hh hn, R_put h.R0 hg ht hp, R_put h.R1 hg ht hp, h.l0, h.l1⟩
/-- The elements. -/
structure Ce (w W : World) (AL : Option Addr) (cL : Nat) (al : List El) (s : Int) : Prop where
  R : Kd.R kEl 50 W w.heap.size (fun _ => True) (.slice AL al.length cL) al
  l : al.length ≤ 10000000
  lo : -1 ≤ s
  hi : s < al.length
theorem Ce.step {w W W' : World} {AL : Option Addr} {cL : Nat} {al : List El} {s : Int} (h : Ce w W AL cL al s) (b : Below W.heap.size W W') : Ce w W' AL cL al s := ⟨Kd.R_below h.R b, h.l, h.lo, h.hi⟩
theorem Ce.other {w W W' : World} {AL : Option Addr} {cL : Nat} {al : List El} {s : Int} (h : Ce w W AL cL al s) {g t : Nat} {c : Array Value} (hg : W.heap[g]? = some (.cells c t (0, 0))) (ht : ∀ q, q ∈ 50 :: kEl.E → q ≠ t) (hp : PutAt g W W') : Ce w W' AL cL al s :=
  ⟨R_put h.R hg ht hp, h.l, h.lo, h.hi⟩
structure Lq (q : PatR) : Prop where
  l0 : q.pre.length ≤ 1000000
  l1 : q.suf.length ≤ 1000000
  l3 : q.npre.length ≤ 1000000
  l4 : q.nsuf.length ≤ 1000000
theorem cp16 (w W : World) (rb fb pb hb : Nat) (w0 w1 w3 w4 : Value) (AL : Option Addr) (cL : Nat) (al : List El) (s : Int) (q : PatR) (r : Option PatR) (hr : r = c16q al s q) (hc : Cs w W rb fb pb w0 w1 w3 w4 q) (he : Ce w W AL cL al s) (hq : Lq q) :
    Code.wp Try.prog (Cp 16) (bodyPost Try.prog Try.f6 (CPost r w)) ⟨#[v0,v1, .pointer (some ⟨rb, 0, none⟩), .pointer (some ⟨fb, 0, none⟩),v4,v5, .slice AL al.length cL,v7,v8, .int .i64 s,v10,v11, .pointer (some ⟨hb, 0, none⟩), .pointer (some ⟨pb, 0, none⟩),v14,v15,v16,v17,v18,v19,v20,v21,v22,v23,v24,v25,v26,v27,v28,v29,v30,v31,v32,v33,v34,v35,v36,v37,v38,v39,v40,v41,v42,v43,v44,v45,v46,v47,v48,v49,v50,v51,v52,v53,v54,v55,v56,v57,v58,v59,v60,v61,v62,v63,v64,v65,v66,v67,v68,v69,v70,v71,v72,v73,v74,v75,v76,v77,v78,v79,v80,v81,v82,v83,v84,v85,v86,v87,v88,v89,v90,v91,v92,v93,v94,v95,v96,v97,v98,v99,v100,v101,v102,v103,v104,v105,v106,v107,v108,v109,v110,v111,v112,v113,v114,v115,v116,v117,v118,v119,v120,v121,v122,v123,v124,v125,v126,v127,v128,v129,v130,v131,v132,v133,v134,v135,v136,v137,v138,v139,v140,v141,v142,v143,v144,v145,v146,v147,v148,v149,v150,v151,v152,v153,v154,v155,v156,v157,v158,v159,v160,v161,v162,v163,v164,v165,v166,v167,v168,v169,v170,v171,v172,v173,v174,v175,v176,v177,v178,v179], []⟩ W := by
  by_cases hs : 0 ≤ s
  · obtain ⟨sn, rfl⟩ := Int.eq_ofNat_of_zero_le hs
    exact cp16b w W rb fb pb w0 w1 w3 w4 AL cL al sn q r hr (by have := he.hi; omega) hc he.R he.l hq.l0 hq.l1 (fun b hb => by have := half_len hb; omega)
  · exact cp16a w W rb fb pb w0 w1 w3 w4 AL cL al s q r hr hs hc hq.l0 hq.l1 hq.l3 hq.l4
set_option maxHeartbeats 8000000 in
set_option maxRecDepth 1000000 in
theorem cp15 (w W : World) (rb fb pb hb : Nat) (w0 w1 w3 w4 u0 u1 : Value) (AL : Option Addr) (cL : Nat) (al : List El) (s : Int) (q : PatR) (a : HalfR) (r : Option PatR) (hr : r = c16q al s { q with nsuf := a.suf }) (hc : Cs w W rb fb pb w0 w1 w3 w4 q) (he : Ce w W AL cL al s) (hq : Lq q) (hh : Ch w W hb u0 u1 a) (hn : hb ≠ pb) :
    Code.wp Try.prog (Cp 15) (bodyPost Try.prog Try.f6 (CPost r w)) ⟨#[v0,v1, .pointer (some ⟨rb, 0, none⟩), .pointer (some ⟨fb, 0, none⟩),v4,v5, .slice AL al.length cL,v7,v8, .int .i64 s,v10,v11, .pointer (some ⟨hb, 0, none⟩), .pointer (some ⟨pb, 0, none⟩),v14,v15,v16,v17,v18,v19,v20,v21,v22,v23,v24,v25,v26,v27,v28,v29,v30,v31,v32,v33,v34,v35,v36,v37,v38,v39,v40,v41,v42,v43,v44,v45,v46,v47,v48,v49,v50,v51,v52,v53,v54,v55,v56,v57,v58,v59,v60,v61,v62,v63,v64,v65,v66,v67,v68,v69,v70,v71,v72,v73,v74,v75,v76,v77,v78,v79,v80,v81,v82,v83,v84,v85,v86,v87,v88,v89,v90,v91,v92,v93,v94,v95,v96,v97,v98,v99,v100,v101,v102,v103,v104,v105,v106,v107,v108,v109,v110,v111,v112,v113,v114,v115,v116,v117,v118,v119,v120,v121,v122,v123,v124,v125,v126,v127,v128,v129,v130,v131,v132,v133,v134,v135,v136,v137,v138,v139,v140,v141,v142,v143,v144,v145,v146,v147,v148,v149,v150,v151,v152,v153,v154,v155,v156,v157,v158,v159,v160,v161,v162,v163,v164,v165,v166,v167,v168,v169,v170,v171,v172,v173,v174,v175,v176,v177,v178,v179], []⟩ W := by
  obtain ⟨A1, c1, e1⟩ := Kd.R_slice hh.R1
  subst e1
  have k1 : W.cell? ⟨hb, 1, none⟩ = some (.slice A1 a.suf.length c1) := by rw [blk_cell hh.hh 1]; rfl
  have HC := Lib.hid hc
  have HALL := Lib.hid (And.intro hr (And.intro he (And.intro hq (And.intro hh hn))))
  clear hr hc he hq hh hn
  rw [show Cp 15 = .seq (stmtOf 15 cpBody) (Cp 16) from by kernel_rfl]
  have hz15 : stmtOf 15 cpBody = stmtOf 15 cpBody := rfl
  conv at hz15 => rhs; whnf
  rw [hz15]; clear hz15
  go_wp2_with (first
    | ((with_reducible refine gate_store (t := 24) (p := 138) rfl ?_); refine store_any_event rfl rfl rfl pb 4 (.slice A1 a.suf.length c1) #[.slice A1 a.suf.length c1] rfl rfl rfl _ _ HC.out.hp (by kernel_rfl) (Nat.le_of_ble_eq_true (by kernel_rfl)) (all_one1 _ rfl) _ (set_p4 _ _ _ _ _ _ _ _ _ _) ?_; intro W2 g p'; have HG2 := Lib.hid g; have HQ2 := Lib.hid p'; clear g p'))
  obtain ⟨hr, he, hq, hh, hn⟩ := HALL.out
  have hc := HC.out
  have g := HG2.out
  have p' := HQ2.out
  exact cp16 w W2 rb fb pb hb w0 w1 w3 (.slice A1 a.suf.length c1) AL cL al s { q with nsuf := a.suf } r hr
    ⟨hc.st.store p' hc.plo hc.pr hc.pf, hc.plo, hc.pr, hc.pf, g, R_put hc.R0 hc.hp (by decide) p', R_put hc.R1 hc.hp (by decide) p', R_put hc.R3 hc.hp (by decide) p', R_put hh.R1 hc.hp (by decide) p'⟩
    (he.other hc.hp (by decide) p') ⟨hq.l0, hq.l1, hq.l3, by have := hh.l1; exact Nat.le_trans this (by decide)⟩
theorem itemK_M {w W : World} {base : Nat} {ok : Nat → Prop} (x : S57) (cs : List Value) (h : k57.K w x cs) : k57.M W base ok x cs := by
  obtain rfl := k57_open h
  exact k57_mkM _ _ _ _
theorem R_one (W : World) : Kd.R k57 57 (W.alloc (.cells #[.int .i64 2, .int .i32 0] 57 (0, 0))) W.heap.size (fun _ => True) (.slice (some ⟨W.heap.size, 0, none⟩) 1 1) [⟨2, 0⟩] := by
  refine ⟨fun k hk => trivial, [.int .i64 2, .int .i32 0], ?_, ?_⟩
  · have h2 := World.ownsRow_lit (base := W.heap.size) (e := 57) (size := 2) W #[.int .i64 2, .int .i32 0] 1 (Nat.le_refl _) (by decide) (by decide)
    show World.ownsRow _ _ _ 2 _ _ _
    simpa using h2
  · refine ⟨by decide, fun j p hj => ?_⟩
    cases j with
    | zero =>
      simp only [List.getElem?_cons_zero, Option.some.injEq] at hj
      subst hj
      exact k57_mkM _ _ _ _
    | succ j => simp at hj
set_option maxHeartbeats 8000000 in
set_option maxRecDepth 1000000 in
theorem cp14 (w W : World) (rb fb pb hb : Nat) (w0 w1 w3 w4 u0 u1 : Value) (AL : Option Addr) (cL : Nat) (al : List El) (s : Int) (q : PatR) (a : HalfR) (r : Option PatR) (hr : r = c16q al s { q with npre := ⟨2, 0⟩ :: a.pre, nsuf := a.suf }) (hc : Cs w W rb fb pb w0 w1 w3 w4 q) (he : Ce w W AL cL al s) (hq : Lq q) (hh : Ch w W hb u0 u1 a) (hn : hb ≠ pb) :
    Code.wp Try.prog (Cp 14) (bodyPost Try.prog Try.f6 (CPost r w)) ⟨#[v0,v1, .pointer (some ⟨rb, 0, none⟩), .pointer (some ⟨fb, 0, none⟩),v4,v5, .slice AL al.length cL,v7,v8, .int .i64 s,v10,v11, .pointer (some ⟨hb, 0, none⟩), .pointer (some ⟨pb, 0, none⟩),v14,v15,v16,v17,v18,v19,v20,v21,v22,v23,v24,v25,v26,v27,v28,v29,v30,v31,v32,v33,v34,v35,v36,v37,v38,v39,v40,v41,v42,v43,v44,v45,v46,v47,v48,v49,v50,v51,v52,v53,v54,v55,v56,v57,v58,v59,v60,v61,v62,v63,v64,v65,v66,v67,v68,v69,v70,v71,v72,v73,v74,v75,v76,v77,v78,v79,v80,v81,v82,v83,v84,v85,v86,v87,v88,v89,v90,v91,v92,v93,v94,v95,v96,v97,v98,v99,v100,v101,v102,v103,v104,v105,v106,v107,v108,v109,v110,v111,v112,v113,v114,v115,v116,v117,v118,v119,v120,v121,v122,v123,v124,v125,v126,v127,v128,v129,v130,v131,v132,v133,v134,v135,v136,v137,v138,v139,v140,v141,v142,v143,v144,v145,v146,v147,v148,v149,v150,v151,v152,v153,v154,v155,v156,v157,v158,v159,v160,v161,v162,v163,v164,v165,v166,v167,v168,v169,v170,v171,v172,v173,v174,v175,v176,v177,v178,v179], []⟩ W := by
  obtain ⟨A0, c0, e0⟩ := Kd.R_slice hh.R0
  subst e0
  have k0 : (W.alloc (.cells #[.int .i64 2, .int .i32 0] 57 (0, 0))).cell? ⟨hb, 0, none⟩ = some (.slice A0 a.pre.length c0) := by rw [blk_cell (blk_alloc hh.hh _) 0]; rfl
  have HONE := Lib.hid (R_one W)
  have HCP := Lib.hid (Kd.R_reads' (Kd.R_alloc hh.R0 (.cells #[.int .i64 2, .int .i32 0] 57 (0, 0)))).2.2
  have HSZ : Hid (W.heap.size ≤ (W.alloc (.cells #[.int .i64 2, .int .i32 0] 57 (0, 0))).heap.size) := Lib.hid (below_alloc (Below.refl _ _) _).size
  have HLL : Hid (([(⟨2, 0⟩ : S57)].length + a.pre.length) * 16 ≤ 140737488355328) := Lib.hid (by have := hh.l0; simp only [List.length_cons, List.length_nil]; omega)
  have HC := Lib.hid hc
  have HH := Lib.hid hh
  have HALL := Lib.hid (And.intro hr (And.intro he (And.intro hq hn)))
  clear hr hc he hq hh hn
  rw [show Cp 14 = .seq (stmtOf 14 cpBody) (Cp 15) from by kernel_rfl]
  have hz14 : stmtOf 14 cpBody = stmtOf 14 cpBody := rfl
  conv at hz14 => rhs; whnf
  rw [hz14]; clear hz14
  go_wp2_with (first
    | ((with_reducible refine gate_builtin (b := .append) (xs := #[.tmp 131, .tmp 133]) rfl ?_); at_builtin; refine Kd.R_append_rows k57 (Rr := k57.K _) (w0 := W) W.heap.size rfl (.tmp 131) (.tmp 133) 24 57 (.agg #[.int .i64 0, .int .i32 0]) 16 rfl Try.underlying24 (by kernel_rfl) rfl (by decide) (by decide) _ [⟨2, 0⟩] a.pre A0 a.pre.length c0 (fun _ => True) (fun _ => False) rfl rfl HONE.out HCP.out (fun x cs => itemK_M x cs) (fun _ hk => hk.elim) (fun _ _ => trivial) (below_alloc (Below.refl _ _) _) HSZ.out HLL.out ?_; intro v134 w2 hr2 hb2 hg2 hat2; obtain ⟨A2, m2, c2, e2⟩ : ∃ A m c, v134 = .slice A m c := (by obtain ⟨A, c, h⟩ := Kd.R_slice hr2; exact ⟨A, _, c, h⟩); subst e2; have HR2 := Lib.hid hr2; have HB2 := Lib.hid hb2; clear hr2 hb2 hg2 hat2)
    | ((with_reducible refine gate_store (t := 24) (p := 135) rfl ?_); refine store_any_event rfl rfl rfl pb 3 (.slice A2 m2 c2) #[.slice A2 m2 c2] rfl rfl rfl _ _ (heap_keeps HB2.out HC.out.hp) (by kernel_rfl) (Nat.le_of_ble_eq_true (by kernel_rfl)) (all_one1 _ rfl) _ (set_p3 _ _ _ _ _ _ _ _ _ _) ?_; intro W2 g p'; have HG2 := Lib.hid g; have HQ2 := Lib.hid p'; clear g p'))
  obtain ⟨hr, he, hq, hn⟩ := HALL.out
  have hc := HC.out.step HB2.out
  have hh := HH.out.step HB2.out
  have g := HG2.out
  have p' := HQ2.out
  have hR2 := Kd.R_lower HR2.out HC.out.st.below.size
  exact cp15 w W2 rb fb pb hb w0 w1 (.slice A2 m2 c2) w4 (.slice A0 a.pre.length c0) u1 AL cL al s { q with npre := ⟨2, 0⟩ :: a.pre } a r hr
    ⟨hc.st.store p' hc.plo hc.pr hc.pf, hc.plo, hc.pr, hc.pf, g, R_put hc.R0 hc.hp (by decide) p', R_put hc.R1 hc.hp (by decide) p', R_put hR2 hc.hp (by decide) p', R_put hc.R4 hc.hp (by decide) p'⟩
    ((he.step HB2.out).other hc.hp (by decide) p') ⟨hq.l0, hq.l1, by have := hh.l0; simp only [List.length_cons]; omega, hq.l4⟩ (hh.other hc.hp (by decide) p' hn) hn
set_option maxHeartbeats 8000000 in
set_option maxRecDepth 1000000 in
theorem cp13 (w W : World) (rb fb pb hb : Nat) (w0 w1 w3 w4 u0 u1 : Value) (AL : Option Addr) (cL : Nat) (al : List El) (s : Int) (q : PatR) (a : HalfR) (r : Option PatR) (hw0 : q.width = 0) (hal : 0 ≤ a.long ∧ a.long ≤ 1000000000000)
    (hr : r = c16q al s { q with npre := ⟨2, 0⟩ :: a.pre, nsuf := a.suf, width := if 0 < a.at_ then a.pre.length + a.suf.length + a.long else 0 }) (hc : Cs w W rb fb pb w0 w1 w3 w4 q) (he : Ce w W AL cL al s) (hq : Lq q) (hh : Ch w W hb u0 u1 a) (hn : hb ≠ pb) :
    Code.wp Try.prog (Cp 13) (bodyPost Try.prog Try.f6 (CPost r w)) ⟨#[v0,v1, .pointer (some ⟨rb, 0, none⟩), .pointer (some ⟨fb, 0, none⟩),v4,v5, .slice AL al.length cL,v7,v8, .int .i64 s,v10,v11, .pointer (some ⟨hb, 0, none⟩), .pointer (some ⟨pb, 0, none⟩),v14,v15,v16,v17,v18,v19,v20,v21,v22,v23,v24,v25,v26,v27,v28,v29,v30,v31,v32,v33,v34,v35,v36,v37,v38,v39,v40,v41,v42,v43,v44,v45,v46,v47,v48,v49,v50,v51,v52,v53,v54,v55,v56,v57,v58,v59,v60,v61,v62,v63,v64,v65,v66,v67,v68,v69,v70,v71,v72,v73,v74,v75,v76,v77,v78,v79,v80,v81,v82,v83,v84,v85,v86,v87,v88,v89,v90,v91,v92,v93,v94,v95,v96,v97,v98,v99,v100,v101,v102,v103,v104,v105,v106,v107,v108,v109,v110,v111,v112,v113,v114,v115,v116,v117,v118,v119,v120,v121,v122,v123,v124,v125,v126,v127,v128,v129,v130,v131,v132,v133,v134,v135,v136,v137,v138,v139,v140,v141,v142,v143,v144,v145,v146,v147,v148,v149,v150,v151,v152,v153,v154,v155,v156,v157,v158,v159,v160,v161,v162,v163,v164,v165,v166,v167,v168,v169,v170,v171,v172,v173,v174,v175,v176,v177,v178,v179], []⟩ W := by
  obtain ⟨A0, c0, e0⟩ := Kd.R_slice hh.R0
  subst e0
  obtain ⟨A1, c1, e1⟩ := Kd.R_slice hh.R1
  subst e1
  have k3 : W.cell? ⟨hb, 22, none⟩ = some (.int .i64 a.at_) := by rw [blk_cell hh.hh 22]; rfl
  by_cases hat : 0 < a.at_
  · have t1 : decide (0 < a.at_) = true := decide_eq_true hat
    rw [if_pos hat] at hr
    have k0 : W.cell? ⟨hb, 0, none⟩ = some (.slice A0 a.pre.length c0) := by rw [blk_cell hh.hh 0]; rfl
    have k1 : W.cell? ⟨hb, 1, none⟩ = some (.slice A1 a.suf.length c1) := by rw [blk_cell hh.hh 1]; rfl
    have k5 : W.cell? ⟨hb, 24, none⟩ = some (.int .i64 a.long) := by rw [blk_cell hh.hh 24]; rfl
    have b0 := hh.l0
    have b1 := hh.l1
    have b2 := hal.1
    have b3 := hal.2
    have q1 : IntKind.i64.wrap ((a.pre.length : Int) + (a.suf.length : Int)) = (a.pre.length : Int) + (a.suf.length : Int) := by rw [IntKind.wrap_i64]; omega
    have q2 : IntKind.i64.wrap ((a.pre.length : Int) + (a.suf.length : Int) + a.long) = (a.pre.length : Int) + (a.suf.length : Int) + a.long := by rw [IntKind.wrap_i64]; omega
    have HC := Lib.hid hc
    have HALL := Lib.hid (And.intro hr (And.intro he (And.intro hq (And.intro hh hn))))
    clear hr hc he hq hh hn hw0 hal hat
    rw [show Cp 13 = .seq (stmtOf 13 cpBody) (Cp 14) from by kernel_rfl]
    have hz13 : stmtOf 13 cpBody = stmtOf 13 cpBody := rfl
    conv at hz13 => rhs; whnf
    rw [hz13]; clear hz13
    go_wp2_with (first
      | ((with_reducible refine gate_store (t := 3) (p := 129) rfl ?_); refine store_any_event rfl rfl rfl pb 19 (.int .i64 ((a.pre.length : Int) + (a.suf.length : Int) + a.long)) #[.int .i64 ((a.pre.length : Int) + (a.suf.length : Int) + a.long)] rfl rfl rfl _ _ HC.out.hp (by kernel_rfl) (Nat.le_of_ble_eq_true (by kernel_rfl)) (all_one1 _ rfl) _ (set_p19 _ _ _ _ _ _ _ _ _ _) ?_; intro W2 g p'; have HG2 := Lib.hid g; have HQ2 := Lib.hid p'; clear g p'))
    obtain ⟨hr, he, hq, hh, hn⟩ := HALL.out
    have hc := HC.out
    have g := HG2.out
    have p' := HQ2.out
    exact cp14 w W2 rb fb pb hb w0 w1 w3 w4 (.slice A0 a.pre.length c0) (.slice A1 a.suf.length c1) AL cL al s { q with width := a.pre.length + a.suf.length + a.long } a r hr
      ⟨hc.st.store p' hc.plo hc.pr hc.pf, hc.plo, hc.pr, hc.pf, g, R_put hc.R0 hc.hp (by decide) p', R_put hc.R1 hc.hp (by decide) p', R_put hc.R3 hc.hp (by decide) p', R_put hc.R4 hc.hp (by decide) p'⟩
      (he.other hc.hp (by decide) p') ⟨hq.l0, hq.l1, hq.l3, hq.l4⟩ (hh.other hc.hp (by decide) p' hn) hn
  · have t1 : decide (0 < a.at_) = false := decide_eq_false hat
    rw [if_neg hat] at hr
    have hr' : r = c16q al s { q with npre := ⟨2, 0⟩ :: a.pre, nsuf := a.suf } := by rw [hr, ← hw0]
    have HALL := Lib.hid (And.intro hr' (And.intro hc (And.intro he (And.intro hq (And.intro hh hn)))))
    clear hr hc he hq hh hn hw0 hal hat hr'
    rw [show Cp 13 = .seq (stmtOf 13 cpBody) (Cp 14) from by kernel_rfl]
    have hz13 : stmtOf 13 cpBody = stmtOf 13 cpBody := rfl
    conv at hz13 => rhs; whnf
    rw [hz13]; clear hz13
    go_wp2
    obtain ⟨hr, hc, he, hq, hh, hn⟩ := HALL.out
    exact cp14 w W rb fb pb hb w0 w1 w3 w4 (.slice A0 a.pre.length c0) (.slice A1 a.suf.length c1) AL cL al s q a r hr hc he hq hh hn
set_option maxHeartbeats 8000000 in
set_option maxRecDepth 1000000 in
theorem cp12 (w W : World) (rb fb pb hb : Nat) (w0 w1 w3 w4 u0 u1 : Value) (AL : Option Addr) (cL : Nat) (al : List El) (s : Int) (q : PatR) (a : HalfR) (r : Option PatR) (hw0 : q.width = 0) (hal : 0 ≤ a.long ∧ a.long ≤ 1000000000000)
    (hr : r = c16q al s { q with pre := a.pre, suf := a.suf, npre := ⟨2, 0⟩ :: a.pre, nsuf := a.suf, at_ := a.at_, pad := a.pad, width := if 0 < a.at_ then a.pre.length + a.suf.length + a.long else 0 }) (hc : Cs w W rb fb pb w0 w1 w3 w4 q) (he : Ce w W AL cL al s) (hq : Lq q) (hh : Ch w W hb u0 u1 a) (hn : hb ≠ pb) :
    Code.wp Try.prog (Cp 12) (bodyPost Try.prog Try.f6 (CPost r w)) ⟨#[v0,v1, .pointer (some ⟨rb, 0, none⟩), .pointer (some ⟨fb, 0, none⟩),v4,v5, .slice AL al.length cL,v7,v8, .int .i64 s,v10,v11, .pointer (some ⟨hb, 0, none⟩), .pointer (some ⟨pb, 0, none⟩),v14,v15,v16,v17,v18,v19,v20,v21,v22,v23,v24,v25,v26,v27,v28,v29,v30,v31,v32,v33,v34,v35,v36,v37,v38,v39,v40,v41,v42,v43,v44,v45,v46,v47,v48,v49,v50,v51,v52,v53,v54,v55,v56,v57,v58,v59,v60,v61,v62,v63,v64,v65,v66,v67,v68,v69,v70,v71,v72,v73,v74,v75,v76,v77,v78,v79,v80,v81,v82,v83,v84,v85,v86,v87,v88,v89,v90,v91,v92,v93,v94,v95,v96,v97,v98,v99,v100,v101,v102,v103,v104,v105,v106,v107,v108,v109,v110,v111,v112,v113,v114,v115,v116,v117,v118,v119,v120,v121,v122,v123,v124,v125,v126,v127,v128,v129,v130,v131,v132,v133,v134,v135,v136,v137,v138,v139,v140,v141,v142,v143,v144,v145,v146,v147,v148,v149,v150,v151,v152,v153,v154,v155,v156,v157,v158,v159,v160,v161,v162,v163,v164,v165,v166,v167,v168,v169,v170,v171,v172,v173,v174,v175,v176,v177,v178,v179], []⟩ W := by
  obtain ⟨A0, c0, e0⟩ := Kd.R_slice hh.R0
  subst e0
  obtain ⟨A1, c1, e1⟩ := Kd.R_slice hh.R1
  subst e1
  have HKK : Hid (W.drew.cell? ⟨hb, 0, none⟩ = some (.slice A0 a.pre.length c0) ∧ W.drew.cell? ⟨hb, 1, none⟩ = some (.slice A1 a.suf.length c1) ∧ W.drew.cell? ⟨hb, 22, none⟩ = some (.int .i64 a.at_) ∧ W.drew.cell? ⟨hb, 23, none⟩ = some (.int .i32 a.pad)) := Lib.hid ⟨(blk_cell hh.hh 0).trans rfl, (blk_cell hh.hh 1).trans rfl, (blk_cell hh.hh 22).trans rfl, (blk_cell hh.hh 23).trans rfl⟩
  have HN := Lib.hid hn
  have HC := Lib.hid (hc.step (Below.refl _ _).drew)
  have HALL := Lib.hid (And.intro hr (And.intro (he.step (Below.refl _ _).drew) (And.intro hq (And.intro (hh.step (Below.refl _ _).drew) (And.intro hw0 hal)))))
  clear hr hc he hq hh hn hw0 hal
  rw [show Cp 12 = .seq (stmtOf 12 cpBody) (Cp 13) from by kernel_rfl]
  have hz12 : stmtOf 12 cpBody = stmtOf 12 cpBody := rfl
  conv at hz12 => rhs; whnf
  rw [hz12]; clear hz12
  go_wp2
  refine wp_region_held_drew (S := fun w' => w'.cell? ⟨hb, 0, none⟩ = some (.slice A0 a.pre.length c0) ∧ w'.cell? ⟨hb, 1, none⟩ = some (.slice A1 a.suf.length c1) ∧ w'.cell? ⟨hb, 22, none⟩ = some (.int .i64 a.at_) ∧ w'.cell? ⟨hb, 23, none⟩ = some (.int .i32 a.pad)) (by kernel_rfl) HKK.out (fun hHeld => ?_)
  refine wpAnyH_take (i := 0) (oi := ?o0_1) (v := .pointer (some ⟨hb, 0, none⟩)) ?h0_1 (by kernel_rfl) (by kernel_rfl) (by kernel_rfl) ?q0_1 ?y0_1 hHeld ?r0_1
  case h0_1 => exact rfl
  case q0_1 => exact fun _ _ _ h => h
  case y0_1 => exact Or.inl ⟨by rfl, fun w hw => by first | rfl | (go_simp; done) | (go_simp; kernel_rfl)⟩
  try simp only [Act.put, List.getElem_toArray, List.getElem_cons_succ, List.getElem_cons_zero, List.setIfInBounds_toArray, List.set_cons_zero, List.set_cons_succ]
  refine wpAnyH_take (i := 1) (oi := ?o1_2) (v := .slice A0 a.pre.length c0) ?h1_2 (by kernel_rfl) (by kernel_rfl) (by kernel_rfl) ?q1_2 ?y1_2 hHeld ?r1_2
  case h1_2 => exact rfl
  case q1_2 => exact fun _ _ _ h => h
  case y1_2 => exact Or.inl ⟨by rfl, fun w hw => by (obtain ⟨hw, hw2, hw3, hw4⟩ := hw; go_simp)⟩
  try simp only [Act.put, List.getElem_toArray, List.getElem_cons_succ, List.getElem_cons_zero, List.setIfInBounds_toArray, List.set_cons_zero, List.set_cons_succ]
  refine wpAnyH_take (i := 2) (oi := ?o2_3) (v := .pointer (some ⟨hb, 1, none⟩)) ?h2_3 (by kernel_rfl) (by kernel_rfl) (by kernel_rfl) ?q2_3 ?y2_3 hHeld ?r2_3
  case h2_3 => exact rfl
  case q2_3 => exact fun _ _ _ h => h
  case y2_3 => exact Or.inl ⟨by rfl, fun w hw => by first | rfl | (go_simp; done) | (go_simp; kernel_rfl)⟩
  try simp only [Act.put, List.getElem_toArray, List.getElem_cons_succ, List.getElem_cons_zero, List.setIfInBounds_toArray, List.set_cons_zero, List.set_cons_succ]
  refine wpAnyH_take (i := 3) (oi := ?o3_4) (v := .slice A1 a.suf.length c1) ?h3_4 (by kernel_rfl) (by kernel_rfl) (by kernel_rfl) ?q3_4 ?y3_4 hHeld ?r3_4
  case h3_4 => exact rfl
  case q3_4 => exact fun _ _ _ h => h
  case y3_4 => exact Or.inl ⟨by rfl, fun w hw => by (obtain ⟨hw, hw2, hw3, hw4⟩ := hw; go_simp)⟩
  try simp only [Act.put, List.getElem_toArray, List.getElem_cons_succ, List.getElem_cons_zero, List.setIfInBounds_toArray, List.set_cons_zero, List.set_cons_succ]
  refine wpAnyH_take (i := 4) (oi := ?o4_5) (v := .pointer (some ⟨hb, 22, none⟩)) ?h4_5 (by kernel_rfl) (by kernel_rfl) (by kernel_rfl) ?q4_5 ?y4_5 hHeld ?r4_5
  case h4_5 => exact rfl
  case q4_5 => exact fun _ _ _ h => h
  case y4_5 => exact Or.inl ⟨by rfl, fun w hw => by first | rfl | (go_simp; done) | (go_simp; kernel_rfl)⟩
  try simp only [Act.put, List.getElem_toArray, List.getElem_cons_succ, List.getElem_cons_zero, List.setIfInBounds_toArray, List.set_cons_zero, List.set_cons_succ]
  refine wpAnyH_take (i := 5) (oi := ?o5_6) (v := .int .i64 a.at_) ?h5_6 (by kernel_rfl) (by kernel_rfl) (by kernel_rfl) ?q5_6 ?y5_6 hHeld ?r5_6
  case h5_6 => exact rfl
  case q5_6 => exact fun _ _ _ h => h
  case y5_6 => exact Or.inl ⟨by rfl, fun w hw => by (obtain ⟨hw, hw2, hw3, hw4⟩ := hw; go_simp)⟩
  try simp only [Act.put, List.getElem_toArray, List.getElem_cons_succ, List.getElem_cons_zero, List.setIfInBounds_toArray, List.set_cons_zero, List.set_cons_succ]
  refine wpAnyH_take (i := 6) (oi := ?o6_7) (v := .pointer (some ⟨hb, 23, none⟩)) ?h6_7 (by kernel_rfl) (by kernel_rfl) (by kernel_rfl) ?q6_7 ?y6_7 hHeld ?r6_7
  case h6_7 => exact rfl
  case q6_7 => exact fun _ _ _ h => h
  case y6_7 => exact Or.inl ⟨by rfl, fun w hw => by first | rfl | (go_simp; done) | (go_simp; kernel_rfl)⟩
  try simp only [Act.put, List.getElem_toArray, List.getElem_cons_succ, List.getElem_cons_zero, List.setIfInBounds_toArray, List.set_cons_zero, List.set_cons_succ]
  refine wpAnyH_take (i := 7) (oi := ?o7_8) (v := .int .i32 a.pad) ?h7_8 (by kernel_rfl) (by kernel_rfl) (by kernel_rfl) ?q7_8 ?y7_8 hHeld ?r7_8
  case h7_8 => exact rfl
  case q7_8 => exact fun _ _ _ h => h
  case y7_8 => exact Or.inl ⟨by rfl, fun w hw => by (obtain ⟨hw, hw2, hw3, hw4⟩ := hw; go_simp)⟩
  try simp only [Act.put, List.getElem_toArray, List.getElem_cons_succ, List.getElem_cons_zero, List.setIfInBounds_toArray, List.set_cons_zero, List.set_cons_succ]
  refine wpAnyH_take (i := 8) (oi := ?o8_9) (v := .pointer (some ⟨pb, 0, none⟩)) ?h8_9 (by kernel_rfl) (by kernel_rfl) (by kernel_rfl) ?q8_9 ?y8_9 hHeld ?r8_9
  case h8_9 => exact rfl
  case q8_9 => exact fun _ _ _ h => h
  case y8_9 => exact Or.inl ⟨by rfl, fun w hw => by first | rfl | (go_simp; done) | (go_simp; kernel_rfl)⟩
  try simp only [Act.put, List.getElem_toArray, List.getElem_cons_succ, List.getElem_cons_zero, List.setIfInBounds_toArray, List.set_cons_zero, List.set_cons_succ]
  refine wpAnyH_ready (rs := [9]) (by kernel_rfl) (by simp) ?_
  refine AllReadyH.cons (o := ?o9_10) ?h9_10 (fun K9 hK => ?s9_10) AllReadyH.nil
  case h9_10 => exact rfl
  rw [if_pos (by rfl)]
  refine wpK_store _ _ _ rfl pb 0 (.slice A0 a.pre.length c0) #[.slice A0 a.pre.length c0] rfl rfl rfl _ _ HC.out.hp (by kernel_rfl) (Nat.le_of_ble_eq_true (by kernel_rfl)) (all_one1 _ rfl) _ (set_p0 _ _ _ _ _ _ _ _ _ _) (fun W9 g p' => ?_)
  have HG9 := Lib.hid g
  have HQ9 := Lib.hid p'
  have HKa := Lib.hid (And.intro (put_cell p' HN.out HKK.out.1) (And.intro (put_cell p' HN.out HKK.out.2.1) (And.intro (put_cell p' HN.out HKK.out.2.2.1) (put_cell p' HN.out HKK.out.2.2.2))))
  clear g p'
  refine hK.out _ _ HKa.out (fun hHelda => ?_)
  clear hK K9
  try simp only [Act.put, List.getElem_toArray, List.getElem_cons_succ, List.getElem_cons_zero, List.setIfInBounds_toArray, List.set_cons_zero, List.set_cons_succ]
  refine wpAnyH_take (i := 10) (oi := ?o10_11) (v := .pointer (some ⟨pb, 1, none⟩)) ?h10_11 (by kernel_rfl) (by kernel_rfl) (by kernel_rfl) ?q10_11 ?y10_11 hHelda ?r10_11
  case h10_11 => exact rfl
  case q10_11 => exact fun _ _ _ h => h
  case y10_11 => exact Or.inl ⟨by rfl, fun w hw => by first | rfl | (go_simp; done) | (go_simp; kernel_rfl)⟩
  try simp only [Act.put, List.getElem_toArray, List.getElem_cons_succ, List.getElem_cons_zero, List.setIfInBounds_toArray, List.set_cons_zero, List.set_cons_succ]
  refine wpAnyH_ready (rs := [11]) (by kernel_rfl) (by simp) ?_
  refine AllReadyH.cons (o := ?o11_12) ?h11_12 (fun K11 hK => ?s11_12) AllReadyH.nil
  case h11_12 => exact rfl
  rw [if_pos (by rfl)]
  refine wpK_store _ _ _ rfl pb 1 (.slice A1 a.suf.length c1) #[.slice A1 a.suf.length c1] rfl rfl rfl _ _ HG9.out (by kernel_rfl) (Nat.le_of_ble_eq_true (by kernel_rfl)) (all_one1 _ rfl) _ (set_p1 _ _ _ _ _ _ _ _ _ _) (fun W11 g p' => ?_)
  have HG11 := Lib.hid g
  have HQ11 := Lib.hid p'
  have HKb := Lib.hid (And.intro (put_cell p' HN.out HKa.out.1) (And.intro (put_cell p' HN.out HKa.out.2.1) (And.intro (put_cell p' HN.out HKa.out.2.2.1) (put_cell p' HN.out HKa.out.2.2.2))))
  clear g p'
  refine hK.out _ _ HKb.out (fun hHeldb => ?_)
  clear hK K11
  try simp only [Act.put, List.getElem_toArray, List.getElem_cons_succ, List.getElem_cons_zero, List.setIfInBounds_toArray, List.set_cons_zero, List.set_cons_succ]
  refine wpAnyH_take (i := 12) (oi := ?o12_13) (v := .pointer (some ⟨pb, 17, none⟩)) ?h12_13 (by kernel_rfl) (by kernel_rfl) (by kernel_rfl) ?q12_13 ?y12_13 hHeldb ?r12_13
  case h12_13 => exact rfl
  case q12_13 => exact fun _ _ _ h => h
  case y12_13 => exact Or.inl ⟨by rfl, fun w hw => by first | rfl | (go_simp; done) | (go_simp; kernel_rfl)⟩
  try simp only [Act.put, List.getElem_toArray, List.getElem_cons_succ, List.getElem_cons_zero, List.setIfInBounds_toArray, List.set_cons_zero, List.set_cons_succ]
  refine wpAnyH_ready (rs := [13]) (by kernel_rfl) (by simp) ?_
  refine AllReadyH.cons (o := ?o13_14) ?h13_14 (fun K13 hK => ?s13_14) AllReadyH.nil
  case h13_14 => exact rfl
  rw [if_pos (by rfl)]
  refine wpK_store _ _ _ rfl pb 17 (.int .i64 a.at_) #[.int .i64 a.at_] rfl rfl rfl _ _ HG11.out (by kernel_rfl) (Nat.le_of_ble_eq_true (by kernel_rfl)) (all_one1 _ rfl) _ (set_p17 _ _ _ _ _ _ _ _ _ _) (fun W13 g p' => ?_)
  have HG13 := Lib.hid g
  have HQ13 := Lib.hid p'
  have HKc := Lib.hid (And.intro (put_cell p' HN.out HKb.out.1) (And.intro (put_cell p' HN.out HKb.out.2.1) (And.intro (put_cell p' HN.out HKb.out.2.2.1) (put_cell p' HN.out HKb.out.2.2.2))))
  clear g p'
  refine hK.out _ _ HKc.out (fun hHeldc => ?_)
  clear hK K13
  try simp only [Act.put, List.getElem_toArray, List.getElem_cons_succ, List.getElem_cons_zero, List.setIfInBounds_toArray, List.set_cons_zero, List.set_cons_succ]
  refine wpAnyH_take (i := 14) (oi := ?o14_15) (v := .pointer (some ⟨pb, 18, none⟩)) ?h14_15 (by kernel_rfl) (by kernel_rfl) (by kernel_rfl) ?q14_15 ?y14_15 hHeldc ?r14_15
  case h14_15 => exact rfl
  case q14_15 => exact fun _ _ _ h => h
  case y14_15 => exact Or.inl ⟨by rfl, fun w hw => by first | rfl | (go_simp; done) | (go_simp; kernel_rfl)⟩
  try simp only [Act.put, List.getElem_toArray, List.getElem_cons_succ, List.getElem_cons_zero, List.setIfInBounds_toArray, List.set_cons_zero, List.set_cons_succ]
  refine wpAnyH_ready (rs := [15]) (by kernel_rfl) (by simp) ?_
  refine AllReadyH.cons (o := ?o15_16) ?h15_16 (fun K15 hK => ?s15_16) AllReadyH.nil
  case h15_16 => exact rfl
  rw [if_pos (by rfl)]
  refine wpK_store _ _ _ rfl pb 18 (.int .i32 a.pad) #[.int .i32 a.pad] rfl rfl rfl _ _ HG13.out (by kernel_rfl) (Nat.le_of_ble_eq_true (by kernel_rfl)) (all_one1 _ rfl) _ (set_p18 _ _ _ _ _ _ _ _ _ _) (fun W15 g p' => ?_)
  have HG15 := Lib.hid g
  have HQ15 := Lib.hid p'
  have HKd := Lib.hid (And.intro (put_cell p' HN.out HKc.out.1) (And.intro (put_cell p' HN.out HKc.out.2.1) (And.intro (put_cell p' HN.out HKc.out.2.2.1) (put_cell p' HN.out HKc.out.2.2.2))))
  clear g p'
  refine hK.out _ _ HKd.out (fun hHeldd => ?_)
  clear hK K15
  try simp only [Act.put, List.getElem_toArray, List.getElem_cons_succ, List.getElem_cons_zero, List.setIfInBounds_toArray, List.set_cons_zero, List.set_cons_succ]
  refine wpAnyH_done (by kernel_rfl) ?_ _
  have hc := HC.out
  obtain ⟨hr, he, hq, hh, hw0, hal⟩ := HALL.out
  have RP : ∀ v l, Kd.R k57 57 W.drew w.heap.size (fun _ => True) v l → Kd.R k57 57 W15 w.heap.size (fun _ => True) v l := fun v l h => by
    have r1 := R_put h hc.hp (by decide) HQ9.out
    have r2 := R_put r1 HG9.out (by decide) HQ11.out
    have r3 := R_put r2 HG11.out (by decide) HQ13.out
    exact R_put r3 HG13.out (by decide) HQ15.out
  have hcn : Cs w W15 rb fb pb (.slice A0 a.pre.length c0) (.slice A1 a.suf.length c1) w3 w4 { q with pre := a.pre, suf := a.suf, at_ := a.at_, pad := a.pad } :=
    ⟨(((hc.st.store HQ9.out hc.plo hc.pr hc.pf).store HQ11.out hc.plo hc.pr hc.pf).store HQ13.out hc.plo hc.pr hc.pf).store HQ15.out hc.plo hc.pr hc.pf, hc.plo, hc.pr, hc.pf, HG15.out, RP _ _ hh.R0, RP _ _ hh.R1, RP _ _ hc.R3, RP _ _ hc.R4⟩
  have hen := (((he.other hc.hp (by decide) HQ9.out).other HG9.out (by decide) HQ11.out).other HG11.out (by decide) HQ13.out).other HG13.out (by decide) HQ15.out
  have hhn := (((hh.other hc.hp (by decide) HQ9.out HN.out).other HG9.out (by decide) HQ11.out HN.out).other HG11.out (by decide) HQ13.out HN.out).other HG13.out (by decide) HQ15.out HN.out
  have HCN := Lib.hid (And.intro hcn (And.intro hen hhn))
  have HRR := Lib.hid (And.intro hr (And.intro hq (And.intro hw0 hal)))
  clear hc hr he hq hh hw0 hal RP hcn hen hhn
  go_wp2
  obtain ⟨hr, hq, hw0, hal⟩ := HRR.out
  have b0 := HCN.out.2.2.l0
  have b1 := HCN.out.2.2.l1
  exact cp13 w W15 rb fb pb hb (.slice A0 a.pre.length c0) (.slice A1 a.suf.length c1) w3 w4 (.slice A0 a.pre.length c0) (.slice A1 a.suf.length c1) AL cL al s { q with pre := a.pre, suf := a.suf, at_ := a.at_, pad := a.pad } a r hw0 hal hr HCN.out.1 HCN.out.2.1 ⟨Nat.le_trans b0 (by decide), Nat.le_trans b1 (by decide), hq.l3, hq.l4⟩ HCN.out.2.2 HN.out
theorem half_range {W : World} {b : Nat} {u0 u1 : Value} {p : N.NP} {a d n : Int} (h : W.heap[b]? = some (.cells (halfC u0 u1 p a d n) 53 (0, 0))) : W.rangeAt b 2 (patN p).toList := fun j v hv => by
  have hlt := (List.getElem?_eq_some_iff.1 hv).1
  rw [Nat.add_comm 2 j, blk_cell h (j + 2), ← Array.getElem?_toList, show (halfC u0 u1 p a d n).toList = u0 :: u1 :: ((patN p).toList ++ [.int .i64 a, .int .i32 d, .int .i64 n]) from rfl]
  simp only [List.getElem?_cons_succ]
  rw [List.getElem?_append_left hlt]
  exact hv
theorem R_nilI (W : World) (base : Nat) : Kd.R k57 57 W base (fun _ => True) (.slice none 0 0) [] := Kd.R_nil _ _ _ _ _
set_option maxHeartbeats 8000000 in
set_option maxRecDepth 1000000 in
theorem cp11 (w W : World) (rb fb hb : Nat) (u0 u1 : Value) (AL : Option Addr) (cL : Nat) (al : List El) (s : Int) (a : HalfR) (r : Option PatR) (hal : 0 ≤ a.long ∧ a.long ≤ 1000000000000)
    (hr : r = c16 al s a) (hst : Cst w W rb fb) (he : Ce w W AL cL al s) (hh : Ch w W hb u0 u1 a) :
    Code.wp Try.prog (Cp 11) (bodyPost Try.prog Try.f6 (CPost r w)) ⟨#[v0,v1, .pointer (some ⟨rb, 0, none⟩), .pointer (some ⟨fb, 0, none⟩),v4,v5, .slice AL al.length cL,v7,v8, .int .i64 s,v10,v11, .pointer (some ⟨hb, 0, none⟩),v13,v14,v15,v16,v17,v18,v19,v20,v21,v22,v23,v24,v25,v26,v27,v28,v29,v30,v31,v32,v33,v34,v35,v36,v37,v38,v39,v40,v41,v42,v43,v44,v45,v46,v47,v48,v49,v50,v51,v52,v53,v54,v55,v56,v57,v58,v59,v60,v61,v62,v63,v64,v65,v66,v67,v68,v69,v70,v71,v72,v73,v74,v75,v76,v77,v78,v79,v80,v81,v82,v83,v84,v85,v86,v87,v88,v89,v90,v91,v92,v93,v94,v95,v96,v97,v98,v99,v100,v101,v102,v103,v104,v105,v106,v107,v108,v109,v110,v111,v112,v113,v114,v115,v116,v117,v118,v119,v120,v121,v122,v123,v124,v125,v126,v127,v128,v129,v130,v131,v132,v133,v134,v135,v136,v137,v138,v139,v140,v141,v142,v143,v144,v145,v146,v147,v148,v149,v150,v151,v152,v153,v154,v155,v156,v157,v158,v159,v160,v161,v162,v163,v164,v165,v166,v167,v168,v169,v170,v171,v172,v173,v174,v175,v176,v177,v178,v179], []⟩ W := by
  have HH := Lib.hid hh
  have HALL := Lib.hid (And.intro hal (And.intro hr (And.intro hst he)))
  clear hal hr hst he hh
  rw [show Cp 11 = .seq (stmtOf 11 cpBody) (Cp 12) from by kernel_rfl]
  have hz11 : stmtOf 11 cpBody = stmtOf 11 cpBody := rfl
  conv at hz11 => rhs; whnf
  rw [hz11]; clear hz11
  go_wp2_with (first
    | ((with_reducible refine gate_dst (N := 103) rfl ?_); refine wpList_load_mid rfl 26 (.tmp 102) rfl hb 2 rfl (patN a.num).toList _ (half_range HH.out.hh) Try.underlying26 rfl (by kernel_rfl) ?_; rw [arr_back3])
    | ((with_reducible refine gate_store (t := 26) (p := 13) rfl ?_); refine store_any_event rfl rfl rfl W.heap.size 0 (.agg (patN a.num)) (patN a.num) rfl rfl rfl _ _ (heap_alloc_new W _) (by kernel_rfl) (Nat.le_of_ble_eq_true (by kernel_rfl)) (patN_one a.num) _ (set_pat0 a.num) ?_; intro W2 g p'; have HG2 := Lib.hid g; have HQ2 := Lib.hid p'; clear g p'))
  obtain ⟨hal, hr, hst, he⟩ := HALL.out
  have hh := HH.out
  have p' := HQ2.out
  have b1 : Below W.heap.size W W2 := p'.below (below_alloc (Below.refl _ _) _) (Nat.le_refl _)
  have hs2 := hst.step b1
  have n1 := blk_lt hst.res
  have n2 := blk_lt hst.flt
  have n3 := blk_lt hh.hh
  have n4 : w.heap.size ≤ W.heap.size := hst.below.size
  rw [c16_q] at hr
  exact cp12 w W2 rb fb W.heap.size hb (.slice none 0 0) (.slice none 0 0) (.slice none 0 0) (.slice none 0 0) u0 u1 AL cL al s ⟨a.num, [], [], false, [], [], 0, 0, 0⟩ a r rfl hal hr
    ⟨hs2, n4, by omega, by omega, HG2.out, R_nilI _ _, R_nilI _ _, R_nilI _ _, R_nilI _ _⟩ (he.step b1) ⟨by simp, by simp, by simp, by simp⟩ (hh.step b1) (by omega)
open Go.RowKit Go.Proofs.Ytkgdpgoianimjaa.Utf Go.Proofs.YtkgdpgoianimjaaW.PrintWords Go.Proofs.YtkgdpgoianimjaaW.PrintLast Go.Proofs.YtkgdpgoianimjaaW.PrintMore
set_option linter.unusedVariables false
set_option linter.unusedSimpArgs false
theorem bytesB_size (r : Int) : (bytesB r).size ≤ 4 := by
  obtain ⟨t, h1, h2⟩ := bytes_ex r
  unfold bytesB
  rw [h1, Option.getD_some, strOfNums_size]
  exact h2
theorem splitF_size (n e : Nat) : ∀ (l : List El) (i : Nat) (c : List S48 × ByteArray × List S48), (splitF n e i l c).2.1.size ≤ c.2.1.size + 4 * l.length
  | [], i, c => by simp [splitF]
  | x :: t, i, c => by
    have hb := bytesB_size x.t.f0
    unfold splitF
    split
    · have := splitF_size n e t (i + 1) c
      simp only [List.length_cons]; omega
    split
    · have := splitF_size n e t (i + 1) (c.1 ++ [x.t], c.2.1, c.2.2)
      simp only [List.length_cons] at this ⊢; omega
    split
    · have := splitF_size n e t (i + 1) (c.1, c.2.1 ++ bytesB x.t.f0, c.2.2)
      simp only [List.length_cons, ByteArray.size_append] at this ⊢; omega
    · have := splitF_size n e t (i + 1) (c.1, c.2.1, c.2.2 ++ [x.t])
      simp only [List.length_cons] at this ⊢; omega
theorem half_long {l : List El} {first : Bool} {b : HalfR} (h : halfF l first = some b) (hl : l.length ≤ 100000000) : 0 ≤ b.long ∧ b.long ≤ 1000000000000 := by
  unfold halfF h3 at h
  split at h
  · cases h
  unfold h9 at h
  split at h
  · cases h
  unfold h12 h13 at h
  split at h
  · unfold h15 at h
    split at h
    · unfold h17 at h
      split at h
      · obtain rfl := (Option.some.inj h).symm
        have := splitF_size (runN (fun x => !bodyB x) l 0) (endF l (runN (fun x => !bodyB x) l 0)) l 0 ([], ⟨#[]⟩, [])
        simp only [ByteArray.size, Array.size] at this ⊢
        simp only [List.length_nil, Nat.zero_add] at this
        omega
      · cases h
    · cases h
  · cases h
/-- The fault's variable. -/
structure Cf (w W : World) (rb fb vb : Nat) (E a : Int) : Prop where
  hv : W.heap[vb]? = some (.cells #[.int .i64 E, .int .i64 a] 29 (0, 0))
  lo : w.heap.size ≤ vb
  r : vb ≠ rb
  f : vb ≠ fb
theorem Cf.step {w W W' : World} {rb fb vb : Nat} {E a : Int} (h : Cf w W rb fb vb E a) (b : Below W.heap.size W W') : Cf w W' rb fb vb E a := ⟨heap_keeps b h.hv, h.lo, h.r, h.f⟩
def c9m (all : List El) (s : Int) : Option HalfR → Option PatR
  | none => none
  | some a => c16 all s a
theorem c9_m (all : List El) (s : Int) : c9 all s = c9m all s (halfF (if 0 ≤ s then all.take s.toNat else all) true) := by
  unfold c9
  cases halfF (if 0 ≤ s then all.take s.toNat else all) true <;> rfl
def c6m (all : List El) : Option Int → Option PatR
  | none => none
  | some s => c9 all s
theorem c6_m (all : List El) : c6 all = c6m all (semiGo 0 all (-1)) := by
  unfold c6
  cases semiGo 0 all (-1) <;> rfl
set_option maxHeartbeats 8000000 in
set_option maxRecDepth 1000000 in
theorem cp10 (w W : World) (rb fb vb hb : Nat) (hcs : Array Value) (E ea : Int) (AL : Option Addr) (cL : Nat) (al : List El) (s : Int) (r0 : Option HalfR) (r : Option PatR) (hr : r = c9m al s r0) (hst : Cst w W rb fb) (he : Ce w W AL cL al s) (hf : Cf w W rb fb vb E ea)
    (hlo : w.heap.size ≤ hb) (hh : W.heap[hb]? = some (.cells hcs 53 (0, 0))) (ho : HOut r0 w hcs E W) (hlen : ∀ a, r0 = some a → (a.pre.length ≤ 40 ∧ a.suf.length ≤ 40) ∧ 0 ≤ a.long ∧ a.long ≤ 1000000000000) :
    Code.wp Try.prog (Cp 10) (bodyPost Try.prog Try.f6 (CPost r w)) ⟨#[v0,v1, .pointer (some ⟨rb, 0, none⟩), .pointer (some ⟨fb, 0, none⟩),v4, .pointer (some ⟨vb, 0, none⟩), .slice AL al.length cL,v7,v8, .int .i64 s,v10,v11, .pointer (some ⟨hb, 0, none⟩),v13,v14,v15,v16,v17,v18,v19,v20,v21,v22,v23,v24,v25,v26,v27,v28,v29,v30,v31,v32,v33,v34,v35,v36,v37,v38,v39,v40,v41,v42,v43,v44,v45,v46,v47,v48,v49,v50,v51,v52,v53,v54,v55,v56,v57,v58,v59,v60,v61,v62,v63,v64,v65,v66,v67,v68,v69,v70,v71,v72,v73,v74,v75,v76,v77,v78,v79,v80,v81,v82,v83,v84,v85,v86,v87,v88,v89,v90,v91,v92,v93,v94,v95,v96,v97,v98,v99,v100,v101,v102,v103,v104,v105,v106,v107,v108,v109,v110,v111,v112,v113,v114,v115,v116,v117,v118,v119,v120,v121,v122,v123,v124,v125,v126,v127,v128,v129,v130,v131,v132,v133,v134,v135,v136,v137,v138,v139,v140,v141,v142,v143,v144,v145,v146,v147,v148,v149,v150,v151,v152,v153,v154,v155,v156,v157,v158,v159,v160,v161,v162,v163,v164,v165,v166,v167,v168,v169,v170,v171,v172,v173,v174,v175,v176,v177,v178,v179], []⟩ W := by
  have e0 : W.cell? ⟨vb, 0, none⟩ = some (.int .i64 E) := (blk_cell hf.hv 0).trans rfl
  cases r0 with
  | none =>
    have HE : Hid (E ≠ 0) := Lib.hid ho
    have hrn : r = none := hr
    subst hrn
    have t2 : (E != 0) = true := bne_iff_ne.2 HE.out
    have HS := Lib.hid hst
    have HV := Lib.hid hf.hv
    have HN : Hid (vb ≠ rb ∧ vb ≠ fb) := Lib.hid ⟨hf.r, hf.f⟩
    clear hr hst he hf hlo hh ho hlen
    rw [show Cp 10 = .seq (stmtOf 10 cpBody) (Cp 11) from by kernel_rfl]
    have hz10 : stmtOf 10 cpBody = stmtOf 10 cpBody := rfl
    conv at hz10 => rhs; whnf
    rw [hz10]; clear hz10
    go_wp2
    have HD : Hid (W.drew.heap[vb]? = some (.cells #[.int .i64 E, .int .i64 ea] 29 (0, 0))) := Lib.hid HV.out
    refine wp_region_held_drew (S := fun w' => w'.rangeAt vb 0 (#[.int .i64 E, .int .i64 ea] : Array Value).toList) (by kernel_rfl) (row_range HD.out) (fun hHeld => ?_)
    refine wpAnyH_take (i := 0) (oi := ?o0_1) (v := .agg (patN N.np0)) ?h0_1 (by kernel_rfl) (by kernel_rfl) (by kernel_rfl) ?q0_1 ?y0_1 hHeld ?r0_1
    case h0_1 => exact rfl
    case q0_1 => exact fun _ _ _ h => h
    case y0_1 => exact Or.inl ⟨by rfl, fun w hw => by first | rfl | (go_simp; done) | (go_simp; kernel_rfl)⟩
    try simp only [Act.put, List.getElem_toArray, List.getElem_cons_succ, List.getElem_cons_zero, List.setIfInBounds_toArray, List.set_cons_zero, List.set_cons_succ]
    refine wpAnyH_take (i := 1) (oi := ?o1_2) (v := .agg #[.int .i64 E, .int .i64 ea]) ?h1_2 (by kernel_rfl) (by kernel_rfl) (by kernel_rfl) ?q1_2 ?y1_2 hHeld ?r1_2
    case h1_2 => exact rfl
    case q1_2 => exact fun _ _ _ h => h
    case y1_2 => exact yields_row (by rfl) _ _ rfl _ rfl #[.int .i64 E, .int .i64 ea] _ (fun _ h => h) Try.underlying29 rfl (by kernel_rfl)
    try simp only [Act.put, List.getElem_toArray, List.getElem_cons_succ, List.getElem_cons_zero, List.setIfInBounds_toArray, List.set_cons_zero, List.set_cons_succ]
    refine wpAnyH_ready (rs := [2]) (by kernel_rfl) (by simp) ?_
    refine AllReadyH.cons (o := ?o2_3) ?h2_3 (fun K2 hK => ?s2_3) AllReadyH.nil
    case h2_3 => exact rfl
    rw [if_pos (by rfl)]
    refine wpK_store _ _ _ rfl rb 0 (.agg (patN N.np0)) (patN N.np0) rfl rfl rfl _ _ (show W.drew.heap[rb]? = _ from HS.out.res) (by kernel_rfl) (Nat.le_of_ble_eq_true (by kernel_rfl)) (patN_one _) _ (set_pat0 _) (fun W2 g p' => ?_)
    have HG2 := Lib.hid g
    have HQ2 := Lib.hid p'
    have HD2 := Lib.hid (p'.other HD.out HN.out.1)
    have HF2 := Lib.hid (p'.other (show W.drew.heap[fb]? = _ from HS.out.flt) HS.out.ne.symm)
    clear g p'
    refine hK.out _ _ (row_range HD2.out) (fun hHeld2 => ?_)
    clear hK K2
    try simp only [Act.put, List.getElem_toArray, List.getElem_cons_succ, List.getElem_cons_zero, List.setIfInBounds_toArray, List.set_cons_zero, List.set_cons_succ]
    refine wpAnyH_ready (rs := [3]) (by kernel_rfl) (by simp) ?_
    refine AllReadyH.cons (o := ?o3_4) ?h3_4 (fun K3 hK => ?s3_4) AllReadyH.nil
    case h3_4 => exact rfl
    rw [if_pos (by rfl)]
    refine wpK_store _ _ _ rfl fb 0 (.agg #[.int .i64 E, .int .i64 ea]) #[.int .i64 E, .int .i64 ea] rfl rfl rfl _ _ HF2.out (by kernel_rfl) (Nat.le_of_ble_eq_true (by kernel_rfl)) (all_one2 _ _ rfl rfl) _ (set_flt _ _ _ _) (fun W3 g p' => ?_)
    have HG3 := Lib.hid g
    have HQ3 := Lib.hid p'
    have HR3 := Lib.hid (p'.other HG2.out HS.out.ne)
    have HD3 := Lib.hid (p'.other HD2.out HN.out.2)
    clear g p'
    refine hK.out _ _ (row_range HD3.out) (fun hHeld3 => ?_)
    clear hK K3
    try simp only [Act.put, List.getElem_toArray, List.getElem_cons_succ, List.getElem_cons_zero, List.setIfInBounds_toArray, List.set_cons_zero, List.set_cons_succ]
    refine wpAnyH_done (by kernel_rfl) ?_ _
    go_wp2
    refine bodyPost_ret (results_cells2 rfl _ _ rb fb 26 29 (patN N.np0) #[.int .i64 E, .int .i64 ea] (0, 0) (0, 0) _ _ rfl HR3.out Try.underlying26 rfl (by kernel_rfl) rfl HG3.out Try.underlying29 rfl (by kernel_rfl)) rfl ?_
    exact comp_out E ea HE.out (HQ3.out.below (HQ2.out.below HS.out.below.drew HS.out.rlo) HS.out.flo) _ rfl
  | some a =>
    obtain ⟨hE, u0, u1, hhc, r0, r1⟩ := ho
    subst hE
    subst hhc
    have t2 : ((0 : Int) != 0) = false := rfl
    have HALL := Lib.hid (And.intro hr (And.intro hst (And.intro he (And.intro hlo (And.intro hh (And.intro r0 (And.intro r1 (hlen a rfl))))))))
    clear hr hst he hf hlo hh r0 r1 hlen
    rw [show Cp 10 = .seq (stmtOf 10 cpBody) (Cp 11) from by kernel_rfl]
    have hz10 : stmtOf 10 cpBody = stmtOf 10 cpBody := rfl
    conv at hz10 => rhs; whnf
    rw [hz10]; clear hz10
    go_wp2
    obtain ⟨hr, hst, he, hlo, hh, r0, r1, hlen, hal⟩ := HALL.out
    exact cp11 w W rb fb hb u0 u1 AL cL al s a r hal hr hst he ⟨hlo, hh, r0, r1, hlen.1, hlen.2⟩
set_option maxHeartbeats 8000000 in
set_option maxRecDepth 1000000 in
theorem cp9 (w W : World) (rb fb vb : Nat) (E0 a0 : Int) (AL : Option Addr) (cL : Nat) (al lh : List El) (nh : Nat) (hnh : nh = lh.length) (s : Int) (r : Option PatR) (hr : r = c9m al s (halfF lh true)) (hst : Cst w W rb fb) (he : Ce w W AL cL al s) (hf : Cf w W rb fb vb E0 a0)
    (hC : Kd.C kEl W AL lh.length lh) (hl : lh.length ≤ 10000000) :
    Code.wp Try.prog (Cp 9) (bodyPost Try.prog Try.f6 (CPost r w)) ⟨#[v0,v1, .pointer (some ⟨rb, 0, none⟩), .pointer (some ⟨fb, 0, none⟩),v4, .pointer (some ⟨vb, 0, none⟩), .slice AL al.length cL,v7,v8, .int .i64 s,v10, .slice AL nh cL,v12,v13,v14,v15,v16,v17,v18,v19,v20,v21,v22,v23,v24,v25,v26,v27,v28,v29,v30,v31,v32,v33,v34,v35,v36,v37,v38,v39,v40,v41,v42,v43,v44,v45,v46,v47,v48,v49,v50,v51,v52,v53,v54,v55,v56,v57,v58,v59,v60,v61,v62,v63,v64,v65,v66,v67,v68,v69,v70,v71,v72,v73,v74,v75,v76,v77,v78,v79,v80,v81,v82,v83,v84,v85,v86,v87,v88,v89,v90,v91,v92,v93,v94,v95,v96,v97,v98,v99,v100,v101,v102,v103,v104,v105,v106,v107,v108,v109,v110,v111,v112,v113,v114,v115,v116,v117,v118,v119,v120,v121,v122,v123,v124,v125,v126,v127,v128,v129,v130,v131,v132,v133,v134,v135,v136,v137,v138,v139,v140,v141,v142,v143,v144,v145,v146,v147,v148,v149,v150,v151,v152,v153,v154,v155,v156,v157,v158,v159,v160,v161,v162,v163,v164,v165,v166,v167,v168,v169,v170,v171,v172,v173,v174,v175,v176,v177,v178,v179], []⟩ W := by
  subst hnh
  obtain ⟨r0, hr0⟩ : ∃ r0, r0 = halfF lh true := ⟨_, rfl⟩
  have hlen : ∀ a, r0 = some a → (a.pre.length ≤ 40 ∧ a.suf.length ≤ 40) ∧ 0 ≤ a.long ∧ a.long ≤ 1000000000000 := fun a ha => ⟨half_len (hr0.symm.trans ha), half_long (hr0.symm.trans ha) (by omega)⟩
  have HCALL : Hid (Calls Try.prog 17 #[.slice AL lh.length cL, .int .i64 0, .bool true] W (HPost r0 W)) := Lib.hid (by rw [hr0]; exact half_calls lh AL cL 0 true W hC (by omega))
  have HALL := Lib.hid (And.intro hr (And.intro hst (And.intro he (And.intro hf hlen))))
  rw [← hr0] at HALL
  clear hr hst he hf hC hl hr0 hlen
  rw [show Cp 9 = .seq (stmtOf 9 cpBody) (Cp 10) from by kernel_rfl]
  have hz9 : stmtOf 9 cpBody = stmtOf 9 cpBody := rfl
  conv at hz9 => rhs; whnf
  rw [hz9]; clear hz9
  go_wp2_with (first
    | (go_at_call 17; (with_reducible refine HCALL.out.mono ?_); rintro e1 W1 ⟨hcs, E, ea, rfl, c1, c2, b, g⟩; have HB1 := Lib.hid b; have HZ := Lib.hid c1; have HONE := Lib.hid c2; have HO := Lib.hid g; clear b c1 c2 g)
    | ((with_reducible refine gate_store (t := 53) (p := 12) rfl ?_); refine store_any_event rfl rfl rfl W1.heap.size 0 (.agg hcs) hcs rfl rfl rfl _ _ (heap_alloc_new W1 _) (by rw [HZ.out]; kernel_rfl) (by rw [HZ.out]; exact Nat.le_of_ble_eq_true (by kernel_rfl)) HONE.out _ (setAll_full HZ.out) ?_; intro W2 g p'; have HG2 := Lib.hid g; have HQ2 := Lib.hid p'; have HV2 := Lib.hid (p'.other (blk_alloc (heap_keeps HB1.out HALL.out.2.2.2.1.hv) _) (Nat.ne_of_lt (Nat.lt_of_lt_of_le (blk_lt HALL.out.2.2.2.1.hv) HB1.out.size))); clear g p')
    | ((with_reducible refine gate_store (t := 29) (p := 5) rfl ?_); refine store_any_event rfl rfl rfl vb 0 (.agg #[.int .i64 E, .int .i64 ea]) #[.int .i64 E, .int .i64 ea] rfl rfl rfl _ _ HV2.out (by kernel_rfl) (Nat.le_of_ble_eq_true (by kernel_rfl)) (all_one2 _ _ rfl rfl) _ (set_flt _ _ _ _) ?_; intro W3 g p'; have HG3 := Lib.hid g; have HQ3 := Lib.hid p'; clear g p'))
  obtain ⟨hr, hst, he, hf, hlen⟩ := HALL.out
  have b2 : Below W.heap.size W W2 := HQ2.out.below (below_alloc HB1.out _) HB1.out.size
  have hwW : w.heap.size ≤ W.heap.size := hst.below.size
  have n0 := blk_lt hf.hv
  have n1 : W.heap.size ≤ W1.heap.size := HB1.out.size
  have p3 := HQ3.out
  have hs2 := (hst.step b2).store p3 hf.lo hf.r.symm hf.f.symm
  have ho1 := HOut_move (w0 := w) HO.out hwW (below_alloc (Below.refl _ _) (.cells half0 53 (0, 0)))
  have ho2 := HOut_put ho1 (heap_alloc_new W1 _) (by decide) HQ2.out
  have ho3 := HOut_put ho2 HV2.out (by decide) p3
  exact cp10 w W3 rb fb vb W1.heap.size hcs E ea AL cL al s r0 r hr hs2 ((he.step b2).other HV2.out (by decide) p3) ⟨HG3.out, hf.lo, hf.r, hf.f⟩ (by omega) (p3.other HG2.out (by omega)) ho3 hlen
set_option maxHeartbeats 8000000 in
set_option maxRecDepth 1000000 in
theorem cp7 (w W : World) (rb fb vb : Nat) (E0 a0 : Int) (AL : Option Addr) (cL : Nat) (al : List El) (s : Int) (r : Option PatR) (hr : r = c9 al s) (hst : Cst w W rb fb) (he : Ce w W AL cL al s) (hf : Cf w W rb fb vb E0 a0) :
    Code.wp Try.prog (Cp 7) (bodyPost Try.prog Try.f6 (CPost r w)) ⟨#[v0,v1, .pointer (some ⟨rb, 0, none⟩), .pointer (some ⟨fb, 0, none⟩),v4, .pointer (some ⟨vb, 0, none⟩), .slice AL al.length cL,v7,v8, .int .i64 s,v10,v11,v12,v13,v14,v15,v16,v17,v18,v19,v20,v21,v22,v23,v24,v25,v26,v27,v28,v29,v30,v31,v32,v33,v34,v35,v36,v37,v38,v39,v40,v41,v42,v43,v44,v45,v46,v47,v48,v49,v50,v51,v52,v53,v54,v55,v56,v57,v58,v59,v60,v61,v62,v63,v64,v65,v66,v67,v68,v69,v70,v71,v72,v73,v74,v75,v76,v77,v78,v79,v80,v81,v82,v83,v84,v85,v86,v87,v88,v89,v90,v91,v92,v93,v94,v95,v96,v97,v98,v99,v100,v101,v102,v103,v104,v105,v106,v107,v108,v109,v110,v111,v112,v113,v114,v115,v116,v117,v118,v119,v120,v121,v122,v123,v124,v125,v126,v127,v128,v129,v130,v131,v132,v133,v134,v135,v136,v137,v138,v139,v140,v141,v142,v143,v144,v145,v146,v147,v148,v149,v150,v151,v152,v153,v154,v155,v156,v157,v158,v159,v160,v161,v162,v163,v164,v165,v166,v167,v168,v169,v170,v171,v172,v173,v174,v175,v176,v177,v178,v179], []⟩ W := by
  rw [c9_m] at hr
  obtain ⟨_, hcl, hC⟩ := Kd.R_reads' he.R
  by_cases hs : 0 ≤ s
  · obtain ⟨sn, rfl⟩ := Int.eq_ofNat_of_zero_le hs
    rw [if_pos hs, Int.toNat_natCast] at hr
    have t1 : decide (0 ≤ (sn : Int)) = true := decide_eq_true hs
    have hsn : sn ≤ al.length := by have := he.hi; omega
    have HLT : Hid (sn = (al.take sn).length) := Lib.hid (by rw [List.length_take, Nat.min_eq_left hsn])
    have hcb : (sn : Int) ≤ (cL : Int) := by omega
    have HALL := Lib.hid (And.intro hr (And.intro hst (And.intro he (And.intro hf (And.intro (Kd.C_take hC hsn) (show (al.take sn).length ≤ 10000000 by rw [List.length_take]; have := he.l; omega))))))
    have hll := he.l
    clear hr hst he hf hC hs hcl
    rw [show Cp 7 = .seq (stmtOf 7 cpBody) (.seq (stmtOf 8 cpBody) (Cp 9)) from by kernel_rfl]
    have hz7 : stmtOf 7 cpBody = stmtOf 7 cpBody := rfl
    conv at hz7 => rhs; whnf
    rw [hz7]; clear hz7
    have hz8 : stmtOf 8 cpBody = stmtOf 8 cpBody := rfl
    conv at hz8 => rhs; whnf
    rw [hz8]; clear hz8
    go_wp2
    obtain ⟨hr, hst, he, hf, hC, hl⟩ := HALL.out
    exact cp9 w W rb fb vb E0 a0 AL cL al (al.take sn) sn HLT.out sn r hr hst he hf hC hl
  · rw [if_neg hs] at hr
    have t1 : decide (0 ≤ s) = false := decide_eq_false hs
    have HALL := Lib.hid (And.intro hr (And.intro hst (And.intro he (And.intro hf (And.intro hC he.l)))))
    clear hr hst he hf hC hs hcl
    rw [show Cp 7 = .seq (stmtOf 7 cpBody) (.seq (stmtOf 8 cpBody) (Cp 9)) from by kernel_rfl]
    have hz7 : stmtOf 7 cpBody = stmtOf 7 cpBody := rfl
    conv at hz7 => rhs; whnf
    rw [hz7]; clear hz7
    have hz8 : stmtOf 8 cpBody = stmtOf 8 cpBody := rfl
    conv at hz8 => rhs; whnf
    rw [hz8]; clear hz8
    go_wp2
    obtain ⟨hr, hst, he, hf, hC, hl⟩ := HALL.out
    exact cp9 w W rb fb vb E0 a0 AL cL al al _ rfl s r hr hst he hf hC hl
open Go.RowKit Go.Proofs.Ytkgdpgoianimjaa.Utf Go.Proofs.YtkgdpgoianimjaaW.PrintWords Go.Proofs.YtkgdpgoianimjaaW.PrintLast Go.Proofs.YtkgdpgoianimjaaW.PrintMore
set_option linter.unusedVariables false
set_option linter.unusedSimpArgs false
set_option maxHeartbeats 8000000 in
set_option maxRecDepth 1000000 in
theorem cp5 (w W : World) (rb fb vb : Nat) (E0 a0 : Int) (AL : Option Addr) (cL : Nat) (al : List El) (r : Option PatR) (hr : r = c6 al) (hst : Cst w W rb fb) (he : Kd.R kEl 50 W w.heap.size (fun _ => True) (.slice AL al.length cL) al) (hl : al.length ≤ 10000000) (hf : Cf w W rb fb vb E0 a0) :
    Code.wp Try.prog (Cp 5) (bodyPost Try.prog Try.f6 (CPost r w)) ⟨#[v0,v1, .pointer (some ⟨rb, 0, none⟩), .pointer (some ⟨fb, 0, none⟩),v4, .pointer (some ⟨vb, 0, none⟩), .slice AL al.length cL,v7,v8,v9,v10,v11,v12,v13,v14,v15,v16,v17,v18,v19,v20,v21,v22,v23,v24,v25,v26,v27,v28,v29,v30,v31,v32,v33,v34,v35,v36,v37,v38,v39,v40,v41,v42,v43,v44,v45,v46,v47,v48,v49,v50,v51,v52,v53,v54,v55,v56,v57,v58,v59,v60,v61,v62,v63,v64,v65,v66,v67,v68,v69,v70,v71,v72,v73,v74,v75,v76,v77,v78,v79,v80,v81,v82,v83,v84,v85,v86,v87,v88,v89,v90,v91,v92,v93,v94,v95,v96,v97,v98,v99,v100,v101,v102,v103,v104,v105,v106,v107,v108,v109,v110,v111,v112,v113,v114,v115,v116,v117,v118,v119,v120,v121,v122,v123,v124,v125,v126,v127,v128,v129,v130,v131,v132,v133,v134,v135,v136,v137,v138,v139,v140,v141,v142,v143,v144,v145,v146,v147,v148,v149,v150,v151,v152,v153,v154,v155,v156,v157,v158,v159,v160,v161,v162,v163,v164,v165,v166,v167,v168,v169,v170,v171,v172,v173,v174,v175,v176,v177,v178,v179], []⟩ W := by
  rw [c6_m] at hr
  obtain ⟨R, hR⟩ : ∃ R, R = semiGo 0 al (-1) := ⟨_, rfl⟩
  rw [← hR] at hr
  obtain ⟨_, hcl, hC⟩ := Kd.R_reads' he
  have HR := Lib.hid hR
  have HRR := Lib.hid hr
  have HALL := Lib.hid (And.intro hst (And.intro he (And.intro hf hC)))
  have hle : (al.length : Int) ≤ 10000000 := by omega
  clear hst he hf hC hr hR hcl
  rw [show Cp 5 = .seq (stmtOf 5 cpBody) (.seq (stmtOf 6 cpBody) (Cp 7)) from by kernel_rfl]
  have hz5 : stmtOf 5 cpBody = stmtOf 5 cpBody := rfl
  conv at hz5 => rhs; whnf
  rw [hz5]; clear hz5
  have hz6 : stmtOf 6 cpBody = stmtOf 6 cpBody := rfl
  conv at hz6 => rhs; whnf
  rw [hz6]; clear hz6
  go_wp2
  go_loopw [9, 10] (fun v9 v10 wx => ∃ (i : Nat) (s : Int), v10 = .int .i64 (i : Int) ∧ v9 = .int .i64 s ∧ i ≤ al.length ∧ -1 ≤ s ∧ s < i ∧ Below W.heap.size W wx ∧ Hid (semiGo i (al.drop i) s = R)) (fun v9 v10 wx => al.length - (RowKit.intOf v10).toNat)
  case atStart => exact ⟨0, -1, rfl, rfl, Nat.zero_le _, by omega, by omega, Below.refl _ _, Lib.hid HR.out.symm⟩
  case round =>
    clear HR
    obtain ⟨i, s, rfl, rfl, hil, hs1, hs2, hb1, hgo⟩ := hrel
    have HB1 := Lib.hid hb1
    clear hb1
    by_cases hi : i < al.length
    · obtain ⟨x, bk, o, hx, hia, c0, c1, c2, c3⟩ := el_get HALL.out.2.2.2 HB1.out i hi cL
      have hgo' := hgo.out
      rw [drop_getE hx] at hgo'
      simp only [semiGo] at hgo'
      clear hgo
      cases hp : plainB x 59 with
      | false =>
        have HC : Hid (∀ W, Calls Try.prog 16 #[.agg #[.int .i32 x.t.f0, .bool x.t.f1, .int .i64 x.t.f2, .bool x.p], .int .i32 59] W fun e w' => e = .returned (.bool false) ∧ Below W.heap.size W w') := Lib.hid fun W => by have := plain_at x 59 W; rwa [hp] at this
        rw [hp, if_neg (by simp)] at hgo'
        have HG := Lib.hid hgo'
        clear hx hp hgo'
        go_wp2_with (first | (go_at_call 16; (with_reducible refine (HC.out _).mono ?_); rintro e1 W3 ⟨rfl, b1⟩; have HB3 := Lib.hid b1; clear b1))
        go_roundw
        case rel => exact ⟨i + 1, s, by go_num, rfl, by omega, hs1, by omega, below_step HB1.out HB3.out, HG⟩
        case measure => simp [RowKit.intOf]; omega
      | true =>
        have HC : Hid (∀ W, Calls Try.prog 16 #[.agg #[.int .i32 x.t.f0, .bool x.t.f1, .int .i64 x.t.f2, .bool x.p], .int .i32 59] W fun e w' => e = .returned (.bool true) ∧ Below W.heap.size W w') := Lib.hid fun W => by have := plain_at x 59 W; rwa [hp] at this
        rw [hp, if_pos rfl] at hgo'
        by_cases h0 : 0 ≤ s
        · have t1 : decide (0 ≤ s) = true := decide_eq_true h0
          rw [if_pos h0] at hgo'
          have hrn : r = none := by rw [HRR.out, ← hgo']; rfl
          subst hrn
          obtain ⟨ta, hta⟩ : ∃ ta, ta = x.t.f2 := ⟨_, rfl⟩
          have HLT : Hid (bk < wr.heap.size) := Lib.hid (World.block_lt_of_cell? wr _ c2)
          obtain ⟨bk2, o2, hA2, hbk2, _⟩ := els_at HALL.out.2.2.2 (fun e => by rw [e] at hi; simp at hi)
          have HC2 : Hid (wr.cell? ⟨bk, o + 2, none⟩ = some (.int .i64 ta)) := Lib.hid (by rw [hta]; exact c2)
          have hdiff : bk ≠ rb ∧ bk ≠ fb := by
            have e := (hia wr).symm.trans (idx_els al.length cL i bk2 o2 AL wr hA2 hi)
            simp only [Result.ok.injEq, Value.pointer.injEq, Option.some.injEq, Addr.mk.injEq, and_true] at e
            have n1 := Kd.R_ne HALL.out.2.1 HALL.out.1.res (by decide)
            have n2 := Kd.R_ne HALL.out.2.1 HALL.out.1.flt (by decide)
            rw [hA2] at n1 n2
            exact ⟨fun h => n1 (by rw [← h, e.1]; rfl), fun h => n2 (by rw [← h, e.1]; rfl)⟩
          have HNB := Lib.hid hdiff
          clear hx hp hgo' h0 hdiff hta hA2 hbk2
          go_wp2_with (first | (go_at_call 16; (with_reducible refine (HC.out _).mono ?_); rintro e1 W3 ⟨rfl, b1⟩; have HB3 := Lib.hid b1; clear b1))
          have HS := Lib.hid ((HALL.out.1.step HB1.out).step HB3.out)
          have HC3 : Hid (W3.drew.cell? ⟨bk, o + 2, none⟩ = some (.int .i64 ta)) := Lib.hid ((HB3.out.cell (p := ⟨bk, o + 2, none⟩) HLT.out).trans HC2.out)
          clear c0 c1 c2 c3
          refine wp_region_held_drew (S := fun w' => w'.cell? ⟨bk, o + 2, none⟩ = some (.int .i64 ta)) (by kernel_rfl) HC3.out (fun hHeld => ?_)
          refine wpAnyH_take (i := 0) (oi := ?o0_1) (v := .agg (patN N.np0)) ?h0_1 (by kernel_rfl) (by kernel_rfl) (by kernel_rfl) ?q0_1 ?y0_1 hHeld ?r0_1
          case h0_1 => exact rfl
          case q0_1 => exact fun _ _ _ h => h
          case y0_1 => exact Or.inl ⟨by rfl, fun w hw => by first | rfl | (go_simp; done) | (go_simp; kernel_rfl)⟩
          try simp only [Act.put, List.getElem_toArray, List.getElem_cons_succ, List.getElem_cons_zero, List.setIfInBounds_toArray, List.set_cons_zero, List.set_cons_succ]
          refine wpAnyH_take (i := 1) (oi := ?o1_2) (v := .slice AL al.length cL) ?h1_2 (by kernel_rfl) (by kernel_rfl) (by kernel_rfl) ?q1_2 ?y1_2 hHeld ?r1_2
          case h1_2 => exact rfl
          case q1_2 => exact fun _ _ _ h => h
          case y1_2 => exact Or.inl ⟨by rfl, fun w hw => by first | rfl | (go_simp; done) | (go_simp; kernel_rfl)⟩
          try simp only [Act.put, List.getElem_toArray, List.getElem_cons_succ, List.getElem_cons_zero, List.setIfInBounds_toArray, List.set_cons_zero, List.set_cons_succ]
          refine wpAnyH_take (i := 2) (oi := ?o2_3) (v := .int .i64 (i : Int)) ?h2_3 (by kernel_rfl) (by kernel_rfl) (by kernel_rfl) ?q2_3 ?y2_3 hHeld ?r2_3
          case h2_3 => exact rfl
          case q2_3 => exact fun _ _ _ h => h
          case y2_3 => exact Or.inl ⟨by rfl, fun w hw => by first | rfl | (go_simp; done) | (go_simp; kernel_rfl)⟩
          try simp only [Act.put, List.getElem_toArray, List.getElem_cons_succ, List.getElem_cons_zero, List.setIfInBounds_toArray, List.set_cons_zero, List.set_cons_succ]
          refine wpAnyH_take (i := 3) (oi := ?o3_4) (v := .pointer (some ⟨bk, o, none⟩)) ?h3_4 (by kernel_rfl) (by kernel_rfl) (by kernel_rfl) ?q3_4 ?y3_4 hHeld ?r3_4
          case h3_4 => exact rfl
          case q3_4 => exact fun _ _ _ h => h
          case y3_4 => exact Or.inl ⟨by rfl, fun w hw => by first | rfl | (go_simp; done) | (go_simp; kernel_rfl)⟩
          try simp only [Act.put, List.getElem_toArray, List.getElem_cons_succ, List.getElem_cons_zero, List.setIfInBounds_toArray, List.set_cons_zero, List.set_cons_succ]
          refine wpAnyH_take (i := 4) (oi := ?o4_5) (v := .pointer (some ⟨bk, o, none⟩)) ?h4_5 (by kernel_rfl) (by kernel_rfl) (by kernel_rfl) ?q4_5 ?y4_5 hHeld ?r4_5
          case h4_5 => exact rfl
          case q4_5 => exact fun _ _ _ h => h
          case y4_5 => exact Or.inl ⟨by rfl, fun w hw => by first | rfl | (go_simp; done) | (go_simp; kernel_rfl)⟩
          try simp only [Act.put, List.getElem_toArray, List.getElem_cons_succ, List.getElem_cons_zero, List.setIfInBounds_toArray, List.set_cons_zero, List.set_cons_succ]
          refine wpAnyH_take (i := 5) (oi := ?o5_6) (v := .pointer (some ⟨bk, o + 2, none⟩)) ?h5_6 (by kernel_rfl) (by kernel_rfl) (by kernel_rfl) ?q5_6 ?y5_6 hHeld ?r5_6
          case h5_6 => exact rfl
          case q5_6 => exact fun _ _ _ h => h
          case y5_6 => exact Or.inl ⟨by rfl, fun w hw => by first | rfl | (go_simp; done) | (go_simp; kernel_rfl)⟩
          try simp only [Act.put, List.getElem_toArray, List.getElem_cons_succ, List.getElem_cons_zero, List.setIfInBounds_toArray, List.set_cons_zero, List.set_cons_succ]
          refine wpAnyH_take (i := 6) (oi := ?o6_7) (v := .int .i64 ta) ?h6_7 (by kernel_rfl) (by kernel_rfl) (by kernel_rfl) ?q6_7 ?y6_7 hHeld ?r6_7
          case h6_7 => exact rfl
          case q6_7 => exact fun _ _ _ h => h
          case y6_7 => exact Or.inl ⟨by rfl, fun w hw => by (dsimp only at hw); go_simp⟩
          try simp only [Act.put, List.getElem_toArray, List.getElem_cons_succ, List.getElem_cons_zero, List.setIfInBounds_toArray, List.set_cons_zero, List.set_cons_succ]
          refine wpAnyH_take (i := 7) (oi := ?o7_8) (v := .agg #[.int .i64 4, .int .i64 ta]) ?h7_8 (by kernel_rfl) (by kernel_rfl) (by kernel_rfl) ?q7_8 ?y7_8 hHeld ?r7_8
          case h7_8 => exact rfl
          case q7_8 => exact fun _ _ _ h => h
          case y7_8 => exact Or.inl ⟨by rfl, fun w hw => by first | rfl | (go_simp; done) | (go_simp; kernel_rfl)⟩
          try simp only [Act.put, List.getElem_toArray, List.getElem_cons_succ, List.getElem_cons_zero, List.setIfInBounds_toArray, List.set_cons_zero, List.set_cons_succ]
          refine wpAnyH_ready (rs := [8]) (by kernel_rfl) (by simp) ?_
          refine AllReadyH.cons (o := ?o8_9) ?h8_9 (fun K8 hK => ?s8_9) AllReadyH.nil
          case h8_9 => exact rfl
          rw [if_pos (by rfl)]
          refine wpK_store _ _ _ rfl rb 0 (.agg (patN N.np0)) (patN N.np0) rfl rfl rfl _ _ (show W3.drew.heap[rb]? = _ from HS.out.res) (by kernel_rfl) (Nat.le_of_ble_eq_true (by kernel_rfl)) (patN_one _) _ (set_pat0 _) (fun W8 g p' => ?_)
          have HG8 := Lib.hid g
          have HQ8 := Lib.hid p'
          have HC8 := Lib.hid (put_cell p' HNB.out.1 HC3.out)
          have HF8 := Lib.hid (p'.other (show W3.drew.heap[fb]? = _ from HS.out.flt) HS.out.ne.symm)
          clear g p'
          refine hK.out _ _ HC8.out (fun hHeld8 => ?_)
          clear hK K8
          try simp only [Act.put, List.getElem_toArray, List.getElem_cons_succ, List.getElem_cons_zero, List.setIfInBounds_toArray, List.set_cons_zero, List.set_cons_succ]
          refine wpAnyH_ready (rs := [9]) (by kernel_rfl) (by simp) ?_
          refine AllReadyH.cons (o := ?o9_10) ?h9_10 (fun K9 hK => ?s9_10) AllReadyH.nil
          case h9_10 => exact rfl
          rw [if_pos (by rfl)]
          refine wpK_store _ _ _ rfl fb 0 (.agg #[.int .i64 4, .int .i64 ta]) #[.int .i64 4, .int .i64 ta] rfl rfl rfl _ _ HF8.out (by kernel_rfl) (Nat.le_of_ble_eq_true (by kernel_rfl)) (all_one2 _ _ rfl rfl) _ (set_flt _ _ _ _) (fun W9 g p' => ?_)
          have HG9 := Lib.hid g
          have HQ9 := Lib.hid p'
          have HR9 := Lib.hid (p'.other HG8.out HS.out.ne)
          have HC9 := Lib.hid (put_cell p' HNB.out.2 HC8.out)
          clear g p'
          refine hK.out _ _ HC9.out (fun hHeld9 => ?_)
          clear hK K9
          try simp only [Act.put, List.getElem_toArray, List.getElem_cons_succ, List.getElem_cons_zero, List.setIfInBounds_toArray, List.set_cons_zero, List.set_cons_succ]
          refine wpAnyH_done (by kernel_rfl) ?_ _
          go_wp2
          refine bodyPost_ret (results_cells2 rfl _ _ rb fb 26 29 (patN N.np0) #[.int .i64 4, .int .i64 ta] (0, 0) (0, 0) _ _ rfl HR9.out Try.underlying26 rfl (by kernel_rfl) rfl HG9.out Try.underlying29 rfl (by kernel_rfl)) rfl ?_
          exact comp_out 4 ta (by decide) (HQ9.out.below (HQ8.out.below HS.out.below.drew HS.out.rlo) HS.out.flo) _ rfl
        · have t1 : decide (0 ≤ s) = false := decide_eq_false h0
          rw [if_neg h0] at hgo'
          have HG := Lib.hid hgo'
          clear hx hp hgo' h0
          go_wp2_with (first | (go_at_call 16; (with_reducible refine (HC.out _).mono ?_); rintro e1 W3 ⟨rfl, b1⟩; have HB3 := Lib.hid b1; clear b1))
          go_roundw
          case rel => exact ⟨i + 1, (i : Int), by go_num, rfl, by omega, by omega, by omega, below_step HB1.out HB3.out, HG⟩
          case measure => simp [RowKit.intOf]; omega
    · have hie : i = al.length := by omega
      subst hie
      have hgo' := hgo.out
      rw [List.drop_of_length_le (Nat.le_refl _)] at hgo'
      simp only [semiGo] at hgo'
      have hrs : r = c9 al s := by rw [HRR.out, ← hgo']; rfl
      have HRS := Lib.hid hrs
      clear hgo HRR hgo' hrs
      go_wp2
      obtain ⟨hst, he, hf, _⟩ := HALL.out
      exact cp7 w wr rb fb vb E0 a0 AL cL al s r HRS.out (hst.step HB1.out) ⟨Kd.R_below he HB1.out, hl, hs1, hs2⟩ (hf.step HB1.out)
open Go.RowKit Go.Proofs.Ytkgdpgoianimjaa.Utf Go.Proofs.YtkgdpgoianimjaaW.PrintWords Go.Proofs.YtkgdpgoianimjaaW.PrintLast Go.Proofs.YtkgdpgoianimjaaW.PrintMore
set_option linter.unusedVariables false
set_option linter.unusedSimpArgs false
def cTm : Option (List El) → Option PatR
  | none => none
  | some all => c6 all
theorem compT_m (l : List S48) : compT l = cTm (elemsGo l []) := by
  unfold compT
  cases elemsGo l [] <;> rfl
theorem set_4 (x y z u a b c d : Value) : setAll #[x, y, z, u] 0 [a, b, c, d] = #[a, b, c, d] := by kernel_rfl
theorem set_40 (x y z u a : Value) : setAll #[x, y, z, u] 0 [a] = #[a, y, z, u] := by kernel_rfl
theorem set_43 (x y z u a : Value) : setAll #[x, y, z, u] 3 [a] = #[x, y, z, a] := by kernel_rfl
theorem all_one4 (a b c d : Value) (h1 : a.oneCell' = true) (h2 : b.oneCell' = true) (h3 : c.oneCell' = true) (h4 : d.oneCell' = true) : (#[a, b, c, d]).all (·.oneCell') = true := by simp [h1, h2, h3, h4]
theorem und_el : Try.prog.underlying 50 = some ((Try.prog.underlying 50).get (by kernel_rfl)) := by kernel_rfl
set_option maxHeartbeats 8000000 in
set_option maxRecDepth 1000000 in
theorem cp3 (w W : World) (rb fb vb : Nat) (E0 a0 : Int) (AT : Option Addr) (cT : Nat) (tl : List S48) (r : Option PatR) (hr : r = compT tl) (hst : Cst w W rb fb) (hT : Kd.C k48 W AT tl.length tl) (hl : tl.length ≤ 10000000) (hf : Cf w W rb fb vb E0 a0) :
    Code.wp Try.prog (Cp 3) (bodyPost Try.prog Try.f6 (CPost r w)) ⟨#[v0,v1, .pointer (some ⟨rb, 0, none⟩), .pointer (some ⟨fb, 0, none⟩), .slice AT tl.length cT, .pointer (some ⟨vb, 0, none⟩),v6,v7,v8,v9,v10,v11,v12,v13,v14,v15,v16,v17,v18,v19,v20,v21,v22,v23,v24,v25,v26,v27,v28,v29,v30,v31,v32,v33,v34,v35,v36,v37,v38,v39,v40,v41,v42,v43,v44,v45,v46,v47,v48,v49,v50,v51,v52,v53,v54,v55,v56,v57,v58,v59,v60,v61,v62,v63,v64,v65,v66,v67,v68,v69,v70,v71,v72,v73,v74,v75,v76,v77,v78,v79,v80,v81,v82,v83,v84,v85,v86,v87,v88,v89,v90,v91,v92,v93,v94,v95,v96,v97,v98,v99,v100,v101,v102,v103,v104,v105,v106,v107,v108,v109,v110,v111,v112,v113,v114,v115,v116,v117,v118,v119,v120,v121,v122,v123,v124,v125,v126,v127,v128,v129,v130,v131,v132,v133,v134,v135,v136,v137,v138,v139,v140,v141,v142,v143,v144,v145,v146,v147,v148,v149,v150,v151,v152,v153,v154,v155,v156,v157,v158,v159,v160,v161,v162,v163,v164,v165,v166,v167,v168,v169,v170,v171,v172,v173,v174,v175,v176,v177,v178,v179], []⟩ W := by
  rw [compT_m] at hr
  obtain ⟨R, hR⟩ : ∃ R, R = elemsGo tl [] := ⟨_, rfl⟩
  rw [← hR] at hr
  have HR := Lib.hid hR
  have HRR := Lib.hid hr
  have HALL := Lib.hid (And.intro hst (And.intro hf hT))
  have hle : (tl.length : Int) ≤ 10000000 := by omega
  have hwW : w.heap.size ≤ W.heap.size := hst.below.size
  clear hst hf hT hr hR
  rw [show Cp 3 = .seq (stmtOf 3 cpBody) (.seq (stmtOf 4 cpBody) (Cp 5)) from by kernel_rfl]
  have hz3 : stmtOf 3 cpBody = stmtOf 3 cpBody := rfl
  conv at hz3 => rhs; whnf
  rw [hz3]; clear hz3
  have hz4 : stmtOf 4 cpBody = stmtOf 4 cpBody := rfl
  conv at hz4 => rhs; whnf
  rw [hz4]; clear hz4
  go_wp2
  go_loopw [6, 7, 8] (fun v6 v7 v8 wx => ∃ (i : Nat) (acc : List El), v7 = .int .i64 (i : Int) ∧ i ≤ tl.length ∧ acc.length ≤ i ∧ Kd.R kEl 50 wx W.heap.size (fun _ => True) v6 acc ∧ Below W.heap.size W wx ∧ Hid (elemsGo (tl.drop i) acc = R)) (fun v6 v7 v8 wx => tl.length - (RowKit.intOf v7).toNat)
  case atStart => exact ⟨0, [], rfl, Nat.zero_le _, Nat.le_refl 0, Kd.R_nil _ _ _ _ _, Below.refl _ _, Lib.hid HR.out.symm⟩
  case round =>
    clear HR
    obtain ⟨i, acc, rfl, hil, hal, hRa, hb1, hgo⟩ := hrel
    have HRa := Lib.hid hRa
    have HB1 := Lib.hid hb1
    have hsz1 : W.heap.size ≤ wr.heap.size := hb1.size
    clear hb1 hRa
    by_cases hi : i < tl.length
    · obtain ⟨bk, o, hA1, hbk, hcells⟩ := toks_at HALL.out.2.2 (fun e => by rw [e] at hi; simp at hi)
      obtain ⟨x, hx⟩ : ∃ x, tl[i]? = some x := ⟨_, List.getElem?_eq_getElem hi⟩
      have hia := fun W => idx_toks tl.length cT i bk o AT W hA1 hi
      have hc := hcells i x hx
      have c0 := (HB1.out.cell (p := ⟨bk, o + i * 3, none⟩) hbk).trans hc.1
      have c1 := (HB1.out.cell (p := ⟨bk, o + i * 3 + 1, none⟩) hbk).trans hc.2.1
      have c2 := (HB1.out.cell (p := ⟨bk, o + i * 3 + 2, none⟩) hbk).trans hc.2.2
      have hgo' := hgo.out
      rw [drop_getE hx] at hgo'
      unfold elemsGo at hgo'
      obtain ⟨q, bb, ta⟩ := x
      simp only at c0 c1 c2
      cases hp : plainB ⟨⟨q, bb, ta⟩, false⟩ 42 with
      | false =>
        have HC : Hid (∀ W, Calls Try.prog 16 #[.agg #[.int .i32 q, .bool bb, .int .i64 ta, .bool false], .int .i32 42] W fun e w' => e = .returned (.bool false) ∧ Below W.heap.size W w') := Lib.hid fun W => by have := plain_at ⟨⟨q, bb, ta⟩, false⟩ 42 W; rwa [hp] at this
        rw [hp, if_neg (by simp)] at hgo'
        have HG := Lib.hid hgo'
        clear hgo hgo' hp hc hx hcells hA1 hbk
        go_wp2_with (first
          | ((with_reducible refine gate_store (t := 50) (p := 8) rfl ?_); refine store_any_event rfl rfl rfl wr.heap.size 0 (.agg #[.int .i32 q, .bool bb, .int .i64 ta, .bool false]) #[.int .i32 q, .bool bb, .int .i64 ta, .bool false] rfl rfl rfl _ _ (heap_alloc_new wr _) (by kernel_rfl) (Nat.le_of_ble_eq_true (by kernel_rfl)) (all_one4 _ _ _ _ rfl rfl rfl rfl) _ (set_4 _ _ _ _ _ _ _ _) ?_; intro W2 g p'; have HG2 := Lib.hid g; have HB2 : Hid (Below wr.heap.size wr W2) := Lib.hid (p'.below (below_alloc (Below.refl _ _) _) (Nat.le_refl _)); clear g p')
          | ((with_reducible refine gate_dst (N := 37) rfl ?_); refine wpList_load_mid rfl 50 (.tmp 8) rfl wr.heap.size 0 rfl (#[.int .i32 q, .bool bb, .int .i64 ta, .bool false] : Array Value).toList _ (row_range HG2.out) und_el rfl (by kernel_rfl) ?_; rw [arr_back3])
          | (go_at_call 16; (with_reducible refine (HC.out _).mono ?_); rintro e1 W3 ⟨rfl, b1⟩; have HB3 := Lib.hid (below_step HB2.out b1); have HG3 := Lib.hid (heap_keeps b1 HG2.out); have hsz3 : W.heap.size ≤ W3.heap.size := Nat.le_trans hsz1 HB3.out.size; clear b1)
          | ((with_reducible refine gate_dst (N := 61) rfl ?_); refine wpList_load_mid rfl 50 (.tmp 8) rfl wr.heap.size 0 rfl (#[.int .i32 q, .bool bb, .int .i64 ta, .bool false] : Array Value).toList _ (row_range HG3.out) und_el rfl (by kernel_rfl) ?_; rw [arr_back3])
          | ((with_reducible refine gate_builtin (b := .append) (xs := #[.tmp 60, .tmp 62]) rfl ?_); at_builtin; refine Kd.R_append kEl (w0 := W) W.heap.size rfl (.tmp 60) (.tmp 62) 46 50 (.agg #[.int .i32 0, .bool false, .int .i64 0, .bool false]) 24 rfl (by kernel_rfl) (by kernel_rfl) rfl (by decide) (by omega) _ acc ⟨⟨q, bb, ta⟩, false⟩ [.int .i32 q, .bool bb, .int .i64 ta, .bool false] (fun _ => True) (fun _ => False) rfl (by simp [Act.eval]) ?aP (fun _ hk => hk.elim) (fun _ _ => trivial) (Kd.R_below HRa.out HB3.out) (below_step HB1.out HB3.out) hsz3 (by omega) ?_; (case aP => exact kEl_mkM _ _ _ _); intro v140 w10 ho hb hg hat; have HO := Lib.hid ho; have HB := Lib.hid hb; clear ho hb hg hat))
        go_roundw
        case rel => exact ⟨i + 1, acc ++ [⟨⟨q, bb, ta⟩, false⟩], by go_num, by omega, by simp only [List.length_append, List.length_cons, List.length_nil]; omega, HO.out, HB.out, HG⟩
        case measure => simp [RowKit.intOf]; omega
      | true =>
        have HC : Hid (∀ W, Calls Try.prog 16 #[.agg #[.int .i32 q, .bool bb, .int .i64 ta, .bool false], .int .i32 42] W fun e w' => e = .returned (.bool true) ∧ Below W.heap.size W w') := Lib.hid fun W => by have := plain_at ⟨⟨q, bb, ta⟩, false⟩ 42 W; rwa [hp] at this
        rw [hp, if_pos rfl] at hgo'
        by_cases h2 : i + 1 < tl.length
        · obtain ⟨y, hy⟩ : ∃ y, tl[i + 1]? = some y := ⟨_, List.getElem?_eq_getElem h2⟩
          have t2 : ((i : Int) + 1 == (tl.length : Int)) = false := beq_eq_false_iff_ne.2 (by omega)
          rw [drop_getE hy] at hgo'
          simp only at hgo'
          have hia2 := fun W => idx_toks tl.length cT (i + 1) bk o AT W hA1 h2
          rw [show (((i + 1 : Nat) : Int)) = (i : Int) + 1 by omega] at hia2
          obtain ⟨q2, hq2⟩ : ∃ q2, q2 = y.f0 := ⟨_, rfl⟩
          have hcy := (HB1.out.cell (p := ⟨bk, o + (i + 1) * 3, none⟩) hbk).trans (hcells (i + 1) y hy).1
          rw [← hq2] at hcy hgo'
          have HLT : Hid (bk < wr.heap.size) := Lib.hid (Nat.lt_of_lt_of_le hbk hsz1)
          have HCY := Lib.hid hcy
          have HG := Lib.hid hgo'
          have hlt2 : (i : Int) + 1 < (tl.length : Int) := by omega
          clear hgo hgo' hp hc hx hcells hA1 hbk hy hcy hq2
          go_wp2_with (first
            | ((with_reducible refine gate_store (t := 50) (p := 8) rfl ?_); refine store_any_event rfl rfl rfl wr.heap.size 0 (.agg #[.int .i32 q, .bool bb, .int .i64 ta, .bool false]) #[.int .i32 q, .bool bb, .int .i64 ta, .bool false] rfl rfl rfl _ _ (heap_alloc_new wr _) (by kernel_rfl) (Nat.le_of_ble_eq_true (by kernel_rfl)) (all_one4 _ _ _ _ rfl rfl rfl rfl) _ (set_4 _ _ _ _ _ _ _ _) ?_; intro W2 g p'; have HG2 := Lib.hid g; have HB2 : Hid (Below wr.heap.size wr W2) := Lib.hid (p'.below (below_alloc (Below.refl _ _) _) (Nat.le_refl _)); clear g p')
            | ((with_reducible refine gate_dst (N := 37) rfl ?_); refine wpList_load_mid rfl 50 (.tmp 8) rfl wr.heap.size 0 rfl (#[.int .i32 q, .bool bb, .int .i64 ta, .bool false] : Array Value).toList _ (row_range HG2.out) und_el rfl (by kernel_rfl) ?_; rw [arr_back3])
            | (go_at_call 16; (with_reducible refine (HC.out _).mono ?_); rintro e1 W3 ⟨rfl, b1⟩; have HB3 := Lib.hid (below_step HB2.out b1); have HG3 := Lib.hid (heap_keeps b1 HG2.out); have hsz3 : W.heap.size ≤ W3.heap.size := Nat.le_trans hsz1 HB3.out.size; clear b1)
            | ((with_reducible refine gate_store (t := 4) (p := 49) rfl ?_); refine store_any_event rfl rfl rfl wr.heap.size 3 (.bool true) #[.bool true] rfl rfl rfl _ _ HG3.out (by kernel_rfl) (Nat.le_of_ble_eq_true (by kernel_rfl)) (all_one1 _ rfl) _ (set_43 _ _ _ _ _) ?_; intro W4 g p'; have HG4 := Lib.hid g; have HB4 : Hid (Below wr.heap.size wr W4) := Lib.hid (p'.below HB3.out (Nat.le_refl _)); have hcy4 := (HB4.out.cell (p := ⟨bk, o + (i + 1) * 3, none⟩) HLT.out).trans HCY.out; clear g p')
            | ((with_reducible refine gate_store (t := 21) (p := 57) rfl ?_); refine store_any_event rfl rfl rfl wr.heap.size 0 (.int .i32 q2) #[.int .i32 q2] rfl rfl rfl _ _ HG4.out (by kernel_rfl) (Nat.le_of_ble_eq_true (by kernel_rfl)) (all_one1 _ rfl) _ (set_40 _ _ _ _ _) ?_; intro W5 g p'; have HG5 := Lib.hid g; have HB5 : Hid (Below wr.heap.size wr W5) := Lib.hid (p'.below HB4.out (Nat.le_refl _)); have hsz5 : W.heap.size ≤ W5.heap.size := Nat.le_trans hsz1 HB5.out.size; clear g p')
            | ((with_reducible refine gate_dst (N := 61) rfl ?_); refine wpList_load_mid rfl 50 (.tmp 8) rfl wr.heap.size 0 rfl (#[.int .i32 q2, .bool bb, .int .i64 ta, .bool true] : Array Value).toList _ (row_range HG5.out) und_el rfl (by kernel_rfl) ?_; rw [arr_back3])
            | ((with_reducible refine gate_builtin (b := .append) (xs := #[.tmp 60, .tmp 62]) rfl ?_); at_builtin; refine Kd.R_append kEl (w0 := W) W.heap.size rfl (.tmp 60) (.tmp 62) 46 50 (.agg #[.int .i32 0, .bool false, .int .i64 0, .bool false]) 24 rfl (by kernel_rfl) (by kernel_rfl) rfl (by decide) (by omega) _ acc ⟨⟨q2, bb, ta⟩, true⟩ [.int .i32 q2, .bool bb, .int .i64 ta, .bool true] (fun _ => True) (fun _ => False) rfl (by simp [Act.eval]) ?aP (fun _ hk => hk.elim) (fun _ _ => trivial) (Kd.R_below HRa.out HB5.out) (below_step HB1.out HB5.out) hsz5 (by omega) ?_; (case aP => exact kEl_mkM _ _ _ _); intro v140 w10 ho hb hg hat; have HO := Lib.hid ho; have HB := Lib.hid hb; clear ho hb hg hat))
          go_roundw
          case rel => exact ⟨i + 1 + 1, acc ++ [⟨⟨q2, bb, ta⟩, true⟩], by go_num, by omega, by simp only [List.length_append, List.length_cons, List.length_nil]; omega, HO.out, HB.out, HG⟩
          case measure => simp [RowKit.intOf]; omega
        · have t2 : ((i : Int) + 1 == (tl.length : Int)) = true := beq_iff_eq.2 (by omega)
          rw [List.drop_of_length_le (by omega : tl.length ≤ i + 1)] at hgo'
          simp only at hgo'
          have hrn : r = none := by rw [HRR.out, ← hgo']; rfl
          subst hrn
          clear hgo hgo' hp hc hx hcells hA1 hbk
          go_wp2_with (first
            | ((with_reducible refine gate_store (t := 50) (p := 8) rfl ?_); refine store_any_event rfl rfl rfl wr.heap.size 0 (.agg #[.int .i32 q, .bool bb, .int .i64 ta, .bool false]) #[.int .i32 q, .bool bb, .int .i64 ta, .bool false] rfl rfl rfl _ _ (heap_alloc_new wr _) (by kernel_rfl) (Nat.le_of_ble_eq_true (by kernel_rfl)) (all_one4 _ _ _ _ rfl rfl rfl rfl) _ (set_4 _ _ _ _ _ _ _ _) ?_; intro W2 g p'; have HG2 := Lib.hid g; have HB2 : Hid (Below wr.heap.size wr W2) := Lib.hid (p'.below (below_alloc (Below.refl _ _) _) (Nat.le_refl _)); clear g p')
            | ((with_reducible refine gate_dst (N := 37) rfl ?_); refine wpList_load_mid rfl 50 (.tmp 8) rfl wr.heap.size 0 rfl (#[.int .i32 q, .bool bb, .int .i64 ta, .bool false] : Array Value).toList _ (row_range HG2.out) und_el rfl (by kernel_rfl) ?_; rw [arr_back3])
            | (go_at_call 16; (with_reducible refine (HC.out _).mono ?_); rintro e1 W3 ⟨rfl, b1⟩; have HB3 := Lib.hid (below_step HB2.out b1); have HG3 := Lib.hid (heap_keeps b1 HG2.out); have hsz3 : W.heap.size ≤ W3.heap.size := Nat.le_trans hsz1 HB3.out.size; clear b1))
          have hst3 := (HALL.out.1.step HB1.out).step HB3.out
          have n0 : wr.heap.size ≠ rb ∧ wr.heap.size ≠ fb := by
            have h1 := blk_lt HALL.out.1.res
            have h2 := blk_lt HALL.out.1.flt
            exact ⟨by omega, by omega⟩
          have HNB := Lib.hid n0
          have HS := Lib.hid hst3
          have HC3 : Hid (W3.drew.cell? ⟨wr.heap.size, 2, none⟩ = some (.int .i64 ta)) := Lib.hid ((blk_cell HG3.out 2).trans rfl)
          clear hst3 n0
          refine wp_region_held_drew (S := fun w' => w'.cell? ⟨wr.heap.size, 2, none⟩ = some (.int .i64 ta)) (by kernel_rfl) HC3.out (fun hHeld => ?_)
          refine wpAnyH_take (i := 0) (oi := ?o0_1) (v := .agg (patN N.np0)) ?h0_1 (by kernel_rfl) (by kernel_rfl) (by kernel_rfl) ?q0_1 ?y0_1 hHeld ?r0_1
          case h0_1 => exact rfl
          case q0_1 => exact fun _ _ _ h => h
          case y0_1 => exact Or.inl ⟨by rfl, fun w hw => by first | rfl | (go_simp; done) | (go_simp; kernel_rfl)⟩
          try simp only [Act.put, List.getElem_toArray, List.getElem_cons_succ, List.getElem_cons_zero, List.setIfInBounds_toArray, List.set_cons_zero, List.set_cons_succ]
          refine wpAnyH_take (i := 1) (oi := ?o1_2) (v := .pointer (some ⟨wr.heap.size, 0, none⟩)) ?h1_2 (by kernel_rfl) (by kernel_rfl) (by kernel_rfl) ?q1_2 ?y1_2 hHeld ?r1_2
          case h1_2 => exact rfl
          case q1_2 => exact fun _ _ _ h => h
          case y1_2 => exact Or.inl ⟨by rfl, fun w hw => by first | rfl | (go_simp; done) | (go_simp; kernel_rfl)⟩
          try simp only [Act.put, List.getElem_toArray, List.getElem_cons_succ, List.getElem_cons_zero, List.setIfInBounds_toArray, List.set_cons_zero, List.set_cons_succ]
          refine wpAnyH_take (i := 2) (oi := ?o2_3) (v := .pointer (some ⟨wr.heap.size, 2, none⟩)) ?h2_3 (by kernel_rfl) (by kernel_rfl) (by kernel_rfl) ?q2_3 ?y2_3 hHeld ?r2_3
          case h2_3 => exact rfl
          case q2_3 => exact fun _ _ _ h => h
          case y2_3 => exact Or.inl ⟨by rfl, fun w hw => by first | rfl | (go_simp; done) | (go_simp; kernel_rfl)⟩
          try simp only [Act.put, List.getElem_toArray, List.getElem_cons_succ, List.getElem_cons_zero, List.setIfInBounds_toArray, List.set_cons_zero, List.set_cons_succ]
          refine wpAnyH_take (i := 3) (oi := ?o3_4) (v := .int .i64 ta) ?h3_4 (by kernel_rfl) (by kernel_rfl) (by kernel_rfl) ?q3_4 ?y3_4 hHeld ?r3_4
          case h3_4 => exact rfl
          case q3_4 => exact fun _ _ _ h => h
          case y3_4 => exact Or.inl ⟨by rfl, fun w hw => by (dsimp only at hw); go_simp⟩
          try simp only [Act.put, List.getElem_toArray, List.getElem_cons_succ, List.getElem_cons_zero, List.setIfInBounds_toArray, List.set_cons_zero, List.set_cons_succ]
          refine wpAnyH_take (i := 4) (oi := ?o4_5) (v := .agg #[.int .i64 7, .int .i64 ta]) ?h4_5 (by kernel_rfl) (by kernel_rfl) (by kernel_rfl) ?q4_5 ?y4_5 hHeld ?r4_5
          case h4_5 => exact rfl
          case q4_5 => exact fun _ _ _ h => h
          case y4_5 => exact Or.inl ⟨by rfl, fun w hw => by first | rfl | (go_simp; done) | (go_simp; kernel_rfl)⟩
          try simp only [Act.put, List.getElem_toArray, List.getElem_cons_succ, List.getElem_cons_zero, List.setIfInBounds_toArray, List.set_cons_zero, List.set_cons_succ]
          refine wpAnyH_ready (rs := [5]) (by kernel_rfl) (by simp) ?_
          refine AllReadyH.cons (o := ?o5_6) ?h5_6 (fun K5 hK => ?s5_6) AllReadyH.nil
          case h5_6 => exact rfl
          rw [if_pos (by rfl)]
          refine wpK_store _ _ _ rfl rb 0 (.agg (patN N.np0)) (patN N.np0) rfl rfl rfl _ _ (show W3.drew.heap[rb]? = _ from HS.out.res) (by kernel_rfl) (Nat.le_of_ble_eq_true (by kernel_rfl)) (patN_one _) _ (set_pat0 _) (fun W5 g p' => ?_)
          have HG5 := Lib.hid g
          have HQ5 := Lib.hid p'
          have HC8 := Lib.hid (put_cell p' HNB.out.1 HC3.out)
          have HF8 := Lib.hid (p'.other (show W3.drew.heap[fb]? = _ from HS.out.flt) HS.out.ne.symm)
          clear g p'
          refine hK.out _ _ HC8.out (fun hHeld8 => ?_)
          clear hK K5
          try simp only [Act.put, List.getElem_toArray, List.getElem_cons_succ, List.getElem_cons_zero, List.setIfInBounds_toArray, List.set_cons_zero, List.set_cons_succ]
          refine wpAnyH_ready (rs := [6]) (by kernel_rfl) (by simp) ?_
          refine AllReadyH.cons (o := ?o6_7) ?h6_7 (fun K6 hK => ?s6_7) AllReadyH.nil
          case h6_7 => exact rfl
          rw [if_pos (by rfl)]
          refine wpK_store _ _ _ rfl fb 0 (.agg #[.int .i64 7, .int .i64 ta]) #[.int .i64 7, .int .i64 ta] rfl rfl rfl _ _ HF8.out (by kernel_rfl) (Nat.le_of_ble_eq_true (by kernel_rfl)) (all_one2 _ _ rfl rfl) _ (set_flt _ _ _ _) (fun W6 g p' => ?_)
          have HG6 := Lib.hid g
          have HQ6 := Lib.hid p'
          have HR9 := Lib.hid (p'.other HG5.out HS.out.ne)
          have HC9 := Lib.hid (put_cell p' HNB.out.2 HC8.out)
          clear g p'
          refine hK.out _ _ HC9.out (fun hHeld9 => ?_)
          clear hK K6
          try simp only [Act.put, List.getElem_toArray, List.getElem_cons_succ, List.getElem_cons_zero, List.setIfInBounds_toArray, List.set_cons_zero, List.set_cons_succ]
          refine wpAnyH_done (by kernel_rfl) ?_ _
          go_wp2
          refine bodyPost_ret (results_cells2 rfl _ _ rb fb 26 29 (patN N.np0) #[.int .i64 7, .int .i64 ta] (0, 0) (0, 0) _ _ rfl HR9.out Try.underlying26 rfl (by kernel_rfl) rfl HG6.out Try.underlying29 rfl (by kernel_rfl)) rfl ?_
          exact comp_out 7 ta (by decide) (HQ6.out.below (HQ5.out.below HS.out.below.drew HS.out.rlo) HS.out.flo) _ rfl
    · have hie : i = tl.length := by omega
      subst hie
      have hgo' := hgo.out
      rw [List.drop_of_length_le (Nat.le_refl _)] at hgo'
      simp only [elemsGo] at hgo'
      have hrs : r = c6 acc := by rw [HRR.out, ← hgo']; rfl
      have HRS := Lib.hid hrs
      obtain ⟨A1, c1, e1⟩ := Kd.R_slice HRa.out
      subst e1
      clear hgo HRR hgo' hrs
      go_wp2
      obtain ⟨hst, hf, _⟩ := HALL.out
      exact cp5 w wr rb fb vb E0 a0 A1 c1 acc r HRS.out (hst.step HB1.out) (Kd.R_lower HRa.out hwW) (by omega) (hf.step HB1.out)
open Go.RowKit Go.Proofs.Ytkgdpgoianimjaa.Utf Go.Proofs.YtkgdpgoianimjaaW.PrintWords Go.Proofs.YtkgdpgoianimjaaW.PrintLast Go.Proofs.YtkgdpgoianimjaaW.PrintMore
set_option linter.unusedVariables false
set_option linter.unusedSimpArgs false
set_option maxHeartbeats 8000000 in
set_option maxRecDepth 1000000 in
theorem cp2 (w W : World) (rb fb vb : Nat) (E ea : Int) (AT : Option Addr) (cT : Nat) (tl : List S48) (r : Option PatR) (hr : r = if E = 0 then compT tl else none) (hst : Cst w W rb fb) (hT : Kd.C k48 W AT tl.length tl) (hl : tl.length ≤ 10000000) (hf : Cf w W rb fb vb E ea) :
    Code.wp Try.prog (Cp 2) (bodyPost Try.prog Try.f6 (CPost r w)) ⟨#[v0,v1, .pointer (some ⟨rb, 0, none⟩), .pointer (some ⟨fb, 0, none⟩), .slice AT tl.length cT, .pointer (some ⟨vb, 0, none⟩),v6,v7,v8,v9,v10,v11,v12,v13,v14,v15,v16,v17,v18,v19,v20,v21,v22,v23,v24,v25,v26,v27,v28,v29,v30,v31,v32,v33,v34,v35,v36,v37,v38,v39,v40,v41,v42,v43,v44,v45,v46,v47,v48,v49,v50,v51,v52,v53,v54,v55,v56,v57,v58,v59,v60,v61,v62,v63,v64,v65,v66,v67,v68,v69,v70,v71,v72,v73,v74,v75,v76,v77,v78,v79,v80,v81,v82,v83,v84,v85,v86,v87,v88,v89,v90,v91,v92,v93,v94,v95,v96,v97,v98,v99,v100,v101,v102,v103,v104,v105,v106,v107,v108,v109,v110,v111,v112,v113,v114,v115,v116,v117,v118,v119,v120,v121,v122,v123,v124,v125,v126,v127,v128,v129,v130,v131,v132,v133,v134,v135,v136,v137,v138,v139,v140,v141,v142,v143,v144,v145,v146,v147,v148,v149,v150,v151,v152,v153,v154,v155,v156,v157,v158,v159,v160,v161,v162,v163,v164,v165,v166,v167,v168,v169,v170,v171,v172,v173,v174,v175,v176,v177,v178,v179], []⟩ W := by
  have e0 : W.cell? ⟨vb, 0, none⟩ = some (.int .i64 E) := (blk_cell hf.hv 0).trans rfl
  by_cases hE : E = 0
  · have t1 : (E != 0) = false := by rw [hE]; rfl
    rw [if_pos hE] at hr
    have HALL := Lib.hid (And.intro hr (And.intro hst (And.intro hT (And.intro hl hf))))
    clear hr hst hT hl hf hE
    rw [show Cp 2 = .seq (stmtOf 2 cpBody) (Cp 3) from by kernel_rfl]
    have hz2 : stmtOf 2 cpBody = stmtOf 2 cpBody := rfl
    conv at hz2 => rhs; whnf
    rw [hz2]; clear hz2
    go_wp2
    obtain ⟨hr, hst, hT, hl, hf⟩ := HALL.out
    exact cp3 w W rb fb vb E ea AT cT tl r hr hst hT hl hf
  · have t1 : (E != 0) = true := bne_iff_ne.2 hE
    rw [if_neg hE] at hr
    subst hr
    have HE := Lib.hid hE
    have HS := Lib.hid hst
    have HV := Lib.hid hf.hv
    have HN : Hid (vb ≠ rb ∧ vb ≠ fb) := Lib.hid ⟨hf.r, hf.f⟩
    clear hst hT hl hf hE
    rw [show Cp 2 = .seq (stmtOf 2 cpBody) (Cp 3) from by kernel_rfl]
    have hz2 : stmtOf 2 cpBody = stmtOf 2 cpBody := rfl
    conv at hz2 => rhs; whnf
    rw [hz2]; clear hz2
    go_wp2
    have HD : Hid (W.drew.heap[vb]? = some (.cells #[.int .i64 E, .int .i64 ea] 29 (0, 0))) := Lib.hid HV.out
    refine wp_region_held_drew (S := fun w' => w'.rangeAt vb 0 (#[.int .i64 E, .int .i64 ea] : Array Value).toList) (by kernel_rfl) (row_range HD.out) (fun hHeld => ?_)
    refine wpAnyH_take (i := 0) (oi := ?o0_1) (v := .agg (patN N.np0)) ?h0_1 (by kernel_rfl) (by kernel_rfl) (by kernel_rfl) ?q0_1 ?y0_1 hHeld ?r0_1
    case h0_1 => exact rfl
    case q0_1 => exact fun _ _ _ h => h
    case y0_1 => exact Or.inl ⟨by rfl, fun w hw => by first | rfl | (go_simp; done) | (go_simp; kernel_rfl)⟩
    try simp only [Act.put, List.getElem_toArray, List.getElem_cons_succ, List.getElem_cons_zero, List.setIfInBounds_toArray, List.set_cons_zero, List.set_cons_succ]
    refine wpAnyH_take (i := 1) (oi := ?o1_2) (v := .agg #[.int .i64 E, .int .i64 ea]) ?h1_2 (by kernel_rfl) (by kernel_rfl) (by kernel_rfl) ?q1_2 ?y1_2 hHeld ?r1_2
    case h1_2 => exact rfl
    case q1_2 => exact fun _ _ _ h => h
    case y1_2 => exact yields_row (by rfl) _ _ rfl _ rfl #[.int .i64 E, .int .i64 ea] _ (fun _ h => h) Try.underlying29 rfl (by kernel_rfl)
    try simp only [Act.put, List.getElem_toArray, List.getElem_cons_succ, List.getElem_cons_zero, List.setIfInBounds_toArray, List.set_cons_zero, List.set_cons_succ]
    refine wpAnyH_ready (rs := [2]) (by kernel_rfl) (by simp) ?_
    refine AllReadyH.cons (o := ?o2_3) ?h2_3 (fun K2 hK => ?s2_3) AllReadyH.nil
    case h2_3 => exact rfl
    rw [if_pos (by rfl)]
    refine wpK_store _ _ _ rfl rb 0 (.agg (patN N.np0)) (patN N.np0) rfl rfl rfl _ _ (show W.drew.heap[rb]? = _ from HS.out.res) (by kernel_rfl) (Nat.le_of_ble_eq_true (by kernel_rfl)) (patN_one _) _ (set_pat0 _) (fun W2 g p' => ?_)
    have HG2 := Lib.hid g
    have HQ2 := Lib.hid p'
    have HD2 := Lib.hid (p'.other HD.out HN.out.1)
    have HF2 := Lib.hid (p'.other (show W.drew.heap[fb]? = _ from HS.out.flt) HS.out.ne.symm)
    clear g p'
    refine hK.out _ _ (row_range HD2.out) (fun hHeld2 => ?_)
    clear hK K2
    try simp only [Act.put, List.getElem_toArray, List.getElem_cons_succ, List.getElem_cons_zero, List.setIfInBounds_toArray, List.set_cons_zero, List.set_cons_succ]
    refine wpAnyH_ready (rs := [3]) (by kernel_rfl) (by simp) ?_
    refine AllReadyH.cons (o := ?o3_4) ?h3_4 (fun K3 hK => ?s3_4) AllReadyH.nil
    case h3_4 => exact rfl
    rw [if_pos (by rfl)]
    refine wpK_store _ _ _ rfl fb 0 (.agg #[.int .i64 E, .int .i64 ea]) #[.int .i64 E, .int .i64 ea] rfl rfl rfl _ _ HF2.out (by kernel_rfl) (Nat.le_of_ble_eq_true (by kernel_rfl)) (all_one2 _ _ rfl rfl) _ (set_flt _ _ _ _) (fun W3 g p' => ?_)
    have HG3 := Lib.hid g
    have HQ3 := Lib.hid p'
    have HR3 := Lib.hid (p'.other HG2.out HS.out.ne)
    have HD3 := Lib.hid (p'.other HD2.out HN.out.2)
    clear g p'
    refine hK.out _ _ (row_range HD3.out) (fun hHeld3 => ?_)
    clear hK K3
    try simp only [Act.put, List.getElem_toArray, List.getElem_cons_succ, List.getElem_cons_zero, List.setIfInBounds_toArray, List.set_cons_zero, List.set_cons_succ]
    refine wpAnyH_done (by kernel_rfl) ?_ _
    go_wp2
    refine bodyPost_ret (results_cells2 rfl _ _ rb fb 26 29 (patN N.np0) #[.int .i64 E, .int .i64 ea] (0, 0) (0, 0) _ _ rfl HR3.out Try.underlying26 rfl (by kernel_rfl) rfl HG3.out Try.underlying29 rfl (by kernel_rfl)) rfl ?_
    exact comp_out E ea HE.out (HQ3.out.below (HQ2.out.below HS.out.below.drew HS.out.rlo) HS.out.flo) _ rfl
set_option maxHeartbeats 8000000 in
set_option maxRecDepth 1000000 in
theorem cp1 (w W : World) (rb fb : Nat) (s : ByteArray) (k : Nat) (E ea : Int) (tl : List S48) (r : Option PatR) (hr : r = if E = 0 then compT tl else none) (hsc : figureheadref13_Scan.f k s = some (tl, E, ea)) (hst : Cst w W rb fb) (hl : tl.length ≤ 10000000) :
    Code.wp Try.prog (Cp 1) (bodyPost Try.prog Try.f6 (CPost r w)) ⟨#[.string s,v1, .pointer (some ⟨rb, 0, none⟩), .pointer (some ⟨fb, 0, none⟩),v4,v5,v6,v7,v8,v9,v10,v11,v12,v13,v14,v15,v16,v17,v18,v19,v20,v21,v22,v23,v24,v25,v26,v27,v28,v29,v30,v31,v32,v33,v34,v35,v36,v37,v38,v39,v40,v41,v42,v43,v44,v45,v46,v47,v48,v49,v50,v51,v52,v53,v54,v55,v56,v57,v58,v59,v60,v61,v62,v63,v64,v65,v66,v67,v68,v69,v70,v71,v72,v73,v74,v75,v76,v77,v78,v79,v80,v81,v82,v83,v84,v85,v86,v87,v88,v89,v90,v91,v92,v93,v94,v95,v96,v97,v98,v99,v100,v101,v102,v103,v104,v105,v106,v107,v108,v109,v110,v111,v112,v113,v114,v115,v116,v117,v118,v119,v120,v121,v122,v123,v124,v125,v126,v127,v128,v129,v130,v131,v132,v133,v134,v135,v136,v137,v138,v139,v140,v141,v142,v143,v144,v145,v146,v147,v148,v149,v150,v151,v152,v153,v154,v155,v156,v157,v158,v159,v160,v161,v162,v163,v164,v165,v166,v167,v168,v169,v170,v171,v172,v173,v174,v175,v176,v177,v178,v179], []⟩ W := by
  have HSC := Lib.hid (figureheadref13_Scan.calls k s tl E ea W hsc)
  have HALL := Lib.hid (And.intro hr (And.intro hst hl))
  clear hr hst hl hsc
  rw [show Cp 1 = .seq (stmtOf 1 cpBody) (Cp 2) from by kernel_rfl]
  have hz1 : stmtOf 1 cpBody = stmtOf 1 cpBody := rfl
  conv at hz1 => rhs; whnf
  rw [hz1]; clear hz1
  go_wp2_with (first
    | (go_at_call 15; (with_reducible refine HSC.out.mono ?_); rintro e1 W1 ⟨v19, rfl, hR, b⟩; obtain ⟨A1, c1, e1⟩ : ∃ A c, v19 = .slice A tl.length c := (by obtain ⟨A, c, h⟩ := Kd.R_slice hR; exact ⟨A, c, h⟩); subst e1; have HB1 := Lib.hid b; have HRT := Lib.hid hR; clear b hR)
    | ((with_reducible refine gate_store (t := 29) (p := 5) rfl ?_); refine store_any_event rfl rfl rfl W1.heap.size 0 (.agg #[.int .i64 E, .int .i64 ea]) #[.int .i64 E, .int .i64 ea] rfl rfl rfl _ _ (heap_alloc_new W1 _) (by kernel_rfl) (Nat.le_of_ble_eq_true (by kernel_rfl)) (all_one2 _ _ rfl rfl) _ (set_flt _ _ _ _) ?_; intro W3 g p'; have HG3 := Lib.hid g; have HQ3 := Lib.hid p'; clear g p'))
  obtain ⟨hr, hst, hl⟩ := HALL.out
  have b2 : Below W1.heap.size W1 W3 := HQ3.out.below (below_alloc (Below.refl _ _) _) (Nat.le_refl _)
  have b3 := below_step HB1.out b2
  have n1 : W.heap.size ≤ W1.heap.size := HB1.out.size
  have n2 := blk_lt hst.res
  have n3 := blk_lt hst.flt
  have n4 : w.heap.size ≤ W.heap.size := hst.below.size
  exact cp2 w W3 rb fb W1.heap.size E ea A1 c1 tl r hr (hst.step b3) (Kd.R_reads' (Kd.R_below HRT.out b2)).2.2 hl ⟨HG3.out, by omega, by omega, by omega⟩
theorem cst0 (w : World) : Cst w ((w.alloc (.cells (patN N.np0) 26 (0, 0))).alloc (.cells #[.int .i64 0, .int .i64 0] 29 (0, 0))) w.heap.size (w.heap.size + 1) := by
  have h1 : (w.alloc (.cells (patN N.np0) 26 (0, 0))).heap.size = w.heap.size + 1 := Array.size_push _
  refine ⟨below_alloc (below_alloc (Below.refl _ _) _) _, Nat.le_refl _, Nat.le_succ _, by omega, blk_alloc (heap_alloc_new w _) _, ?_⟩
  rw [← h1]
  exact heap_alloc_new _ _
set_option maxHeartbeats 8000000 in
set_option maxRecDepth 1000000 in
/-- COMPILE'S CONTRACT. -/
theorem compile_calls (s : ByteArray) (k : Nat) (tl : List S48) (E ea : Int) (w : World) (hsc : figureheadref13_Scan.f k s = some (tl, E, ea)) (hl : tl.length ≤ 10000000) :
    Calls Try.prog 6 #[.string s] w (CPost (compF (tl, E, ea)) w) := by
  obtain ⟨r, hr⟩ : ∃ r, r = compF (tl, E, ea) := ⟨_, rfl⟩
  rw [← hr]
  have HR : Hid (r = if E = 0 then compT tl else none) := Lib.hid hr
  have HALL := Lib.hid (And.intro hsc hl)
  clear hr hsc hl
  refine calls_of_wp (c := Cp 0) Try.func6 (by kernel_rfl) ?_
  simp only [Try.ntmps6, List.size_toArray, List.length_cons, List.length_nil, Nat.reduceAdd, Nat.reduceSub, Array.replicate_succ, Array.replicate_zero, List.push_toArray, List.append_toArray, List.nil_append, List.cons_append]
  rw [show Cp 0 = .seq (stmtOf 0 cpBody) (Cp 1) from by kernel_rfl]
  have hz0 : stmtOf 0 cpBody = stmtOf 0 cpBody := rfl
  conv at hz0 => rhs; whnf
  rw [hz0]; clear hz0
  go_wp2
  exact cp1 w _ w.heap.size (w.heap.size + 1) s k E ea tl r HR.out HALL.out.1 (cst0 w) HALL.out.2
end Go.Proofs.Ytkgdpgoianimjaa.Print
