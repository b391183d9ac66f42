/- The reference's Compile: its words, Signs, its end. (Several texts, merged by this session's own program.) -/
import Derived.Test.YtkgdpgoianimjaaKhb
import Derived.Test.YtkgdpgoianimjaaWWords
namespace Go.Proofs.Ytkgdpgoianimjaa.Print
variable {v0 v1 v2 v3 v4 v5 v6 v7 v8 v9 v10 v11 v12 v13 v14 v15 v16 v17 v18 v19 v20 v21 v22 v23 v24 v25 v26 v27 v28 v29 v30 v31 v32 v33 v34 v35 v36 v37 v38 v39 v40 v41 v42 v43 v44 v45 v46 v47 v48 v49 v50 v51 v52 v53 v54 v55 v56 v57 v58 v59 v60 v61 v62 v63 v64 v65 v66 v67 v68 v69 v70 v71 v72 v73 v74 v75 v76 v77 v78 v79 v80 v81 v82 v83 v84 v85 v86 v87 v88 v89 v90 v91 v92 v93 v94 v95 v96 v97 v98 v99 v100 v101 v102 v103 v104 v105 v106 v107 v108 v109 v110 v111 v112 v113 v114 v115 v116 v117 v118 v119 v120 v121 v122 v123 v124 v125 v126 v127 v128 v129 v130 v131 v132 v133 v134 v135 v136 v137 v138 v139 v140 v141 v142 v143 v144 v145 v146 v147 v148 v149 v150 v151 v152 v153 v154 v155 v156 v157 v158 v159 v160 v161 v162 v163 v164 v165 v166 v167 v168 v169 v170 v171 v172 v173 v174 v175 v176 v177 v178 v179 : Value}
open Go.RowKit Go.Proofs.Ytkgdpgoianimjaa.Utf Go.Proofs.YtkgdpgoianimjaaW.PrintWords Go.Proofs.YtkgdpgoianimjaaW.PrintLast Go.Proofs.YtkgdpgoianimjaaW.PrintMore
set_option linter.unusedVariables false
set_option linter.unusedSimpArgs false
/-- The elements of a row of tokens: a star and what stands behind it are padding. None: a star at the end. -/
def elemsGo : List S48 → List El → Option (List El)
  | [], acc => some acc
  | x :: t, acc => if plainB ⟨x, false⟩ 42 = true then (match t with
      | [] => none
      | y :: t2 => elemsGo t2 (acc ++ [⟨⟨y.f0, x.f1, x.f2⟩, true⟩])) else elemsGo t (acc ++ [⟨x, false⟩])
/-- The place of the semicolon, -1: none; None: there are two. -/
def semiGo : Nat → List El → Int → Option Int
  | _, [], s => some s
  | i, x :: t, s => if plainB x 59 = true then (if 0 ≤ s then none else semiGo (i + 1) t i) else semiGo (i + 1) t s
structure PatR where
  num : N.NP
  pre : List S57
  suf : List S57
  hasNeg : Bool
  npre : List S57
  nsuf : List S57
  at_ : Int
  pad : Int
  width : Int
def signsN (k : Int) (l : List S57) : Nat := (l.filter fun x => x.f0 == k).length
def signsF (p : PatR) (k : Int) : Nat := signsN k p.pre + signsN k p.suf + signsN k p.npre + signsN k p.nsuf
def c17 (p : PatR) : Option PatR := if 0 < signsF p 4 ∧ 0 < signsF p 5 then none else some p
def patOf (a : HalfR) : PatR := ⟨a.num, a.pre, a.suf, false, ⟨2, 0⟩ :: a.pre, a.suf, a.at_, a.pad, if 0 < a.at_ then a.pre.length + a.suf.length + a.long else 0⟩
def c16 (all : List El) (s : Int) (a : HalfR) : Option PatR :=
  if 0 ≤ s then (match halfF (all.drop (s.toNat + 1)) false with
    | none => none
    | some b => c17 { patOf a with hasNeg := true, npre := b.pre, nsuf := b.suf }) else c17 (patOf a)
def c9 (all : List El) (s : Int) : Option PatR :=
  match halfF (if 0 ≤ s then all.take s.toNat else all) true with
  | none => none
  | some a => c16 all s a
def c6 (all : List El) : Option PatR :=
  match semiGo 0 all (-1) with
  | none => none
  | some s => c9 all s
/-- What Compile makes of tokens: none where it says an error. -/
def compT (l : List S48) : Option PatR :=
  match elemsGo l [] with
  | none => none
  | some all => c6 all
/-- What Compile says of what was scanned. -/
def compF (r : List S48 × Int × Int) : Option PatR := if r.2.1 = 0 then compT r.1 else none
/-- A pattern's cells. -/
def patP (v0 v1 : Value) (hn : Bool) (v3 v4 : Value) (p : N.NP) (at_ pad width : Int) : Array Value := #[v0, v1, .bool hn, v3, v4, .int .i64 p.minInt, .int .i64 p.maxInt, .int .i64 p.minFrac, .int .i64 p.maxFrac, .int .i64 p.minSig, .int .i64 p.maxSig, .int .i64 p.prim, .int .i64 p.sec, .string (mkB p.inc), .bool p.sci, .int .i64 p.minExp, .bool p.plus, .int .i64 at_, .int .i32 pad, .int .i64 width]
def COut (r : Option PatR) (w : World) (pcs : Array Value) (E : Int) (w' : World) : Prop :=
  match r with
  | none => E ≠ 0
  | some r => E = 0 ∧ ∃ v0 v1 v3 v4 : Value, pcs = patP v0 v1 r.hasNeg v3 v4 r.num r.at_ r.pad r.width ∧ Kd.R k57 57 w' w.heap.size (fun _ => True) v0 r.pre ∧ Kd.R k57 57 w' w.heap.size (fun _ => True) v1 r.suf ∧
      Kd.R k57 57 w' w.heap.size (fun _ => True) v3 r.npre ∧ Kd.R k57 57 w' w.heap.size (fun _ => True) v4 r.nsuf
def CPost (r : Option PatR) (w : World) (e : Ending) (w' : World) : Prop :=
  ∃ (pcs : Array Value) (E at_ : Int), e = .returned (.tuple #[.agg pcs, .agg #[.int .i64 E, .int .i64 at_]]) ∧ pcs.size = 20 ∧ pcs.all (·.oneCell') = true ∧ Below w.heap.size w w' ∧ COut r w pcs E w'
/-- Where the call stands: rb, fb are the results' variables. -/
structure Cst (w W : World) (rb fb : Nat) : Prop where
  below : Below w.heap.size w W
  rlo : w.heap.size ≤ rb
  flo : w.heap.size ≤ fb
  ne : rb ≠ fb
  res : W.heap[rb]? = some (.cells (patN N.np0) 26 (0, 0))
  flt : W.heap[fb]? = some (.cells #[.int .i64 0, .int .i64 0] 29 (0, 0))
theorem Cst.step {w W W' : World} {rb fb : Nat} (h : Cst w W rb fb) (b : Below W.heap.size W W') : Cst w W' rb fb :=
  ⟨below_step h.below b, h.rlo, h.flo, h.ne, heap_keeps b h.res, heap_keeps b h.flt⟩
theorem Cst.store {w W W' : World} {rb fb : Nat} (h : Cst w W rb fb) {g : Nat} (hp : PutAt g W W') (hg : w.heap.size ≤ g) (h1 : rb ≠ g) (h2 : fb ≠ g) : Cst w W' rb fb :=
  ⟨hp.below h.below hg, h.rlo, h.flo, h.ne, hp.other h.res h1, hp.other h.flt h2⟩
theorem patP_one (v0 v1 v3 v4 : Value) (hn : Bool) (p : N.NP) (a d n : Int) (h0 : v0.oneCell' = true) (h1 : v1.oneCell' = true) (h3 : v3.oneCell' = true) (h4 : v4.oneCell' = true) : (patP v0 v1 hn v3 v4 p a d n).all (·.oneCell') = true := by
  simp [patP, h0, h1, h3, h4]
  simp [Value.oneCell']
theorem comp_out {w W' : World} (E at_ : Int) (hE : E ≠ 0) (h : Below w.heap.size w W') (e : Ending) (he : e = .returned (.tuple #[.agg (patN N.np0), .agg #[.int .i64 E, .int .i64 at_]])) : CPost none w e W' :=
  ⟨patN N.np0, E, at_, he, rfl, patN_one _, h, hE⟩
noncomputable def cpBody : Code := (Try.f6.body).getD .skip
noncomputable def Cp (k : Nat) : Code := restOf k cpBody
theorem set_p0 (v0 v1 v3 v4 : Value) (hn : Bool) (p : N.NP) (a d n : Int) (v : Value) : setAll (patP v0 v1 hn v3 v4 p a d n) 0 [v] = patP v v1 hn v3 v4 p a d n := by kernel_rfl
theorem set_p1 (v0 v1 v3 v4 : Value) (hn : Bool) (p : N.NP) (a d n : Int) (v : Value) : setAll (patP v0 v1 hn v3 v4 p a d n) 1 [v] = patP v0 v hn v3 v4 p a d n := by kernel_rfl
theorem set_p2 (v0 v1 v3 v4 : Value) (hn : Bool) (p : N.NP) (a d n : Int) (b : Bool) : setAll (patP v0 v1 hn v3 v4 p a d n) 2 [.bool b] = patP v0 v1 b v3 v4 p a d n := by kernel_rfl
theorem set_p3 (v0 v1 v3 v4 : Value) (hn : Bool) (p : N.NP) (a d n : Int) (v : Value) : setAll (patP v0 v1 hn v3 v4 p a d n) 3 [v] = patP v0 v1 hn v v4 p a d n := by kernel_rfl
theorem set_p4 (v0 v1 v3 v4 : Value) (hn : Bool) (p : N.NP) (a d n : Int) (v : Value) : setAll (patP v0 v1 hn v3 v4 p a d n) 4 [v] = patP v0 v1 hn v3 v p a d n := by kernel_rfl
theorem set_p17 (v0 v1 v3 v4 : Value) (hn : Bool) (p : N.NP) (a d n x : Int) : setAll (patP v0 v1 hn v3 v4 p a d n) 17 [.int .i64 x] = patP v0 v1 hn v3 v4 p x d n := by kernel_rfl
theorem set_p18 (v0 v1 v3 v4 : Value) (hn : Bool) (p : N.NP) (a d n x : Int) : setAll (patP v0 v1 hn v3 v4 p a d n) 18 [.int .i32 x] = patP v0 v1 hn v3 v4 p a x n := by kernel_rfl
theorem set_p19 (v0 v1 v3 v4 : Value) (hn : Bool) (p : N.NP) (a d n x : Int) : setAll (patP v0 v1 hn v3 v4 p a d n) 19 [.int .i64 x] = patP v0 v1 hn v3 v4 p a d x := by kernel_rfl
theorem set_pall (v0 v1 v3 v4 : Value) (hn : Bool) (p : N.NP) (a d n : Int) : setAll (patN N.np0) 0 (patP v0 v1 hn v3 v4 p a d n).toList = patP v0 v1 hn v3 v4 p a d n := by kernel_rfl
open Go.RowKit Go.Proofs.Ytkgdpgoianimjaa.Utf Go.Proofs.YtkgdpgoianimjaaW.PrintWords Go.Proofs.YtkgdpgoianimjaaW.PrintLast Go.Proofs.YtkgdpgoianimjaaW.PrintMore
set_option linter.unusedVariables false
set_option linter.unusedSimpArgs false
/-- A row of items that is read: where it lies. -/
theorem its_at {w : World} {A : Option Addr} {l : List S57} (h : Kd.C k57 w A l.length l) (hl : l ≠ []) :
    ∃ bk o, A = some ⟨bk, o, none⟩ ∧ bk < w.heap.size ∧ ∀ (j : Nat) x, l[j]? = some x → w.cell? ⟨bk, o + j * 2, none⟩ = some (.int .i64 x.f0) ∧ w.cell? ⟨bk, o + j * 2 + 1, none⟩ = some (.int .i32 x.f1) := by
  obtain ⟨_, _, hc⟩ := h
  obtain ⟨⟨bk, o, sp⟩, rfl, hc2⟩ := hc (List.length_pos_iff.2 hl)
  have one : ∀ (j : Nat) x, l[j]? = some x → w.cell? (Addr.add ⟨bk, o, sp⟩ (j * 2)) = some (.int .i64 x.f0) ∧ w.cell? (Addr.add ⟨bk, o, sp⟩ (j * 2 + 1)) = some (.int .i32 x.f1) := fun j x hx => by
    obtain ⟨c, _, hK, hcell⟩ := hc2 j x hx
    obtain rfl := k57_open hK
    exact ⟨hcell 0 _ rfl, hcell 1 _ rfl⟩
  obtain ⟨x, r, rfl⟩ := List.exists_cons_of_ne_nil hl
  have h0 := (one 0 x rfl).1
  rw [show (Addr.add ⟨bk, o, sp⟩ (0 * 2)) = ⟨bk, o, sp⟩ by simp [Addr.add]] at h0
  obtain rfl := cell_spot h0
  exact ⟨bk, o, rfl, World.block_lt_of_cell? w _ h0, fun j x hx => by have := one j x hx; rw [Addr.add_lit, Addr.add_lit] at this; exact this⟩
theorem z_it : ∀ w, (Go.sizeOf 57).run Try.prog w = .ok 2 w := fun w => by kernel_rfl
theorem idx_its (n c i bk o : Nat) (A : Option Addr) (W : World) (hA : A = some ⟨bk, o, none⟩) (hi : i < n) :
    (Instr.indexAt 24 (.slice A n c) (.int .i64 (i : Int))).run Try.prog W = .ok (.pointer (some ⟨bk, o + i * 2, none⟩)) W := by
  subst hA
  have ht : Try.prog.underlying 24 = some (.slice (Try.prog.elem 24)) := by kernel_rfl
  have he : Try.prog.elem 24 = 57 := by kernel_rfl
  rw [run_indexAt_slice _ _ _ _ _ _ _ ht, he, if_pos ⟨by omega, by omega⟩, z_it]
  simp [Result.andThen, Addr.add_lit]
theorem signsN_snoc (k : Int) (l : List S57) (i : Nat) (x : S57) (hx : l[i]? = some x) : signsN k (l.take (i + 1)) = signsN k (l.take i) + (if x.f0 == k then 1 else 0) := by
  rw [List.take_add_one, hx]
  unfold signsN
  simp only [Option.toList_some, List.filter_append, List.length_append]
  congr 1
  by_cases h : (x.f0 == k) = true <;> simp [h]
open Go.RowKit Go.Proofs.Ytkgdpgoianimjaa.Utf Go.Proofs.YtkgdpgoianimjaaW.PrintWords Go.Proofs.YtkgdpgoianimjaaW.PrintLast Go.Proofs.YtkgdpgoianimjaaW.PrintMore
set_option linter.unusedVariables false
set_option linter.unusedSimpArgs false
/-- What of a pattern is asked for. -/
structure Row4 (w : World) (j : Nat) (v : Value) (l : List S57) : Prop where
  ex : ∃ A c, v = .slice A l.length c ∧ Kd.C k57 w A l.length l
  len : l.length ≤ 1000000
def sum4 (k : Int) (ls : List (List S57)) : Nat := (ls.map (signsN k)).foldl (· + ·) 0
theorem sum4_snoc (k : Int) (ls : List (List S57)) (j : Nat) (l : List S57) (h : ls[j]? = some l) : sum4 k (ls.take (j + 1)) = sum4 k (ls.take j) + signsN k l := by
  rw [List.take_add_one, h]
  simp [sum4]
theorem row4_get {w : World} {v0 v1 v3 v4 : Value} {l0 l1 l3 l4 : List S57} (h0 : Row4 w 0 v0 l0) (h1 : Row4 w 1 v1 l1) (h3 : Row4 w 2 v3 l3) (h4 : Row4 w 3 v4 l4) :
    ∀ (j : Nat) (l : List S57), [l0, l1, l3, l4][j]? = some l → ∃ A c, [v0, v1, v3, v4][j]? = some (Value.slice A l.length c) ∧ Kd.C k57 w A l.length l ∧ l.length ≤ 1000000 := by
  intro j l hl
  rcases j with _ | _ | _ | _ | j
  · simp at hl; subst hl; obtain ⟨A, c, rfl, hc⟩ := h0.ex; exact ⟨A, c, rfl, hc, h0.len⟩
  · simp at hl; subst hl; obtain ⟨A, c, rfl, hc⟩ := h1.ex; exact ⟨A, c, rfl, hc, h1.len⟩
  · simp at hl; subst hl; obtain ⟨A, c, rfl, hc⟩ := h3.ex; exact ⟨A, c, rfl, hc, h3.len⟩
  · simp at hl; subst hl; obtain ⟨A, c, rfl, hc⟩ := h4.ex; exact ⟨A, c, rfl, hc, h4.len⟩
  · simp at hl
theorem z_sl : ∀ w, (Go.sizeOf 24).run Try.prog w = .ok 1 w := fun w => by kernel_rfl
theorem idx_rows (b n c i : Nat) (W : World) (hi : i < n) :
    (Instr.indexAt 80 (.slice (some ⟨b, 0, none⟩) n c) (.int .i64 (i : Int))).run Try.prog W = .ok (.pointer (some ⟨b, i, none⟩)) W := by
  have ht : Try.prog.underlying 80 = some (.slice (Try.prog.elem 80)) := by kernel_rfl
  have he : Try.prog.elem 80 = 24 := by kernel_rfl
  rw [run_indexAt_slice _ _ _ _ _ _ _ ht, he, if_pos ⟨by omega, by omega⟩, z_sl]
  simp [Result.andThen, Addr.add_lit]
set_option maxHeartbeats 8000000 in
set_option maxRecDepth 1000000 in
theorem signs_calls (v0 v1 v3 v4 : Value) (hn : Bool) (p : N.NP) (at_ pad width k : Int) (l0 l1 l3 l4 : List S57) (w : World) (h0 : Row4 w 0 v0 l0) (h1 : Row4 w 1 v1 l1) (h3 : Row4 w 2 v3 l3) (h4 : Row4 w 3 v4 l4) :
    Calls Try.prog 18 #[.agg (patP v0 v1 hn v3 v4 p at_ pad width), .int .i64 k] w fun e w' => e = .returned (.int .i64 ((sum4 k [l0, l1, l3, l4] : Nat) : Int)) ∧ Below w.heap.size w w' := by
  have HROW := Lib.hid (row4_get h0 h1 h3 h4)
  obtain ⟨A0, c0, rfl, _⟩ := h0.ex
  obtain ⟨A1, c1, rfl, _⟩ := h1.ex
  obtain ⟨A3, c3, rfl, _⟩ := h3.ex
  obtain ⟨A4, c4, rfl, _⟩ := h4.ex
  obtain ⟨ls, hls⟩ : ∃ ls, ls = [l0, l1, l3, l4] := ⟨_, rfl⟩
  have HLEN : Hid (ls.length = 4) := Lib.hid (by rw [hls]; rfl)
  rw [← hls] at HROW ⊢
  clear h0 h1 h3 h4 hls
  unfold patP
  go_enter Try.func18, Try.ntmps18
  go_wp2_with (first | ((with_reducible refine gate_dst (N := 2) rfl ?_); refine box_event ?hg (N := 2) ?hd (cs := patP (.slice A0 l0.length c0) (.slice A1 l1.length c1) hn (.slice A3 l3.length c3) (.slice A4 l4.length c4) p at_ pad width) (t := 26) ?hr ?_; (case hd => rfl); (case hg => rfl); (case hr => first | (go_simp; done) | (go_simp; rfl)); intro gb hg w3 hbox hb; subst hg; have HB := Lib.hid hb; have HX := Lib.hid hbox; have b0 : w3.cell? ⟨w.heap.size, 0, none⟩ = some (.slice A0 l0.length c0) := (blk_cell hbox 0).trans rfl; have b1 : w3.cell? ⟨w.heap.size, 1, none⟩ = some (.slice A1 l1.length c1) := (blk_cell hbox 1).trans rfl; have b3 : w3.cell? ⟨w.heap.size, 3, none⟩ = some (.slice A3 l3.length c3) := (blk_cell hbox 3).trans rfl; have b4 : w3.cell? ⟨w.heap.size, 4, none⟩ = some (.slice A4 l4.length c4) := (blk_cell hbox 4).trans rfl; clear hb hbox))
  have HC : Hid (∀ j v, [Value.slice A0 l0.length c0, Value.slice A1 l1.length c1, Value.slice A3 l3.length c3, Value.slice A4 l4.length c4][j]? = some v → (w3.alloc (.cells #[.slice A0 l0.length c0, .slice A1 l1.length c1, .slice A3 l3.length c3, .slice A4 l4.length c4] 24 (0, 0))).cell? ⟨w3.heap.size, j, none⟩ = some v) := Lib.hid (fun j v hv => by
    rw [blk_cell (heap_alloc_new w3 _) j, ← hv]
    simp)
  have HBW : Hid (Below w.heap.size w (w3.alloc (.cells #[.slice A0 l0.length c0, .slice A1 l1.length c1, .slice A3 l3.length c3, .slice A4 l4.length c4] 24 (0, 0)))) := Lib.hid (below_alloc HB.out _)
  obtain ⟨W, hW⟩ : ∃ W, W = w3.alloc (.cells #[.slice A0 l0.length c0, .slice A1 l1.length c1, .slice A3 l3.length c3, .slice A4 l4.length c4] 24 (0, 0)) := ⟨_, rfl⟩
  obtain ⟨g4, hg4⟩ : ∃ g4, g4 = w3.heap.size := ⟨_, rfl⟩
  rw [← hW] at HC HBW ⊢
  rw [← hg4] at HC ⊢
  clear hW hg4 HB HX b0 b1 b3 b4
  go_loopw [5, 19] (fun v5 v19 wx => ∃ (j n : Nat), v19 = .int .i64 (j : Int) ∧ v5 = .int .i64 (n : Int) ∧ j ≤ 4 ∧ Hid (n = sum4 k (ls.take j)) ∧ n ≤ j * 1000000 ∧ wx = W) (fun v5 v19 wx => 4 - (RowKit.intOf v19).toNat)
  case atStart => exact ⟨0, 0, rfl, rfl, by omega, Lib.hid (by simp [sum4]), by omega, rfl⟩
  case round =>
    obtain ⟨j, n, rfl, rfl, hj, hn, hnj, hwr⟩ := hrel
    subst hwr
    by_cases hj4 : j < 4
    · obtain ⟨l, hl⟩ : ∃ l, ls[j]? = some l := ⟨_, List.getElem?_eq_getElem (by rw [HLEN.out]; exact hj4)⟩
      obtain ⟨A, c, hv, hK, hlen⟩ := HROW.out j l hl
      have hcj := HC.out j _ hv
      have hix := fun W => idx_rows g4 4 4 j W hj4
      have HK := Lib.hid hK
      have HL := Lib.hid hl
      clear hv hK hl
      go_wp2
      go_loopw [5, 8] (fun v5 v8 wx => ∃ (i m : Nat), v8 = .int .i64 (i : Int) ∧ v5 = .int .i64 (m : Int) ∧ i ≤ l.length ∧ Hid (m = n + signsN k (l.take i)) ∧ m ≤ n + i ∧ wx = wr) (fun v5 v8 wx => l.length - (RowKit.intOf v8).toNat)
      case atStart => exact ⟨0, n, rfl, rfl, by omega, Lib.hid (by simp [signsN]), by omega, rfl⟩
      case round =>
        obtain ⟨i, m, rfl, rfl, hil, hm, hmn, hwr2⟩ := hrel
        subst hwr2
        have hlen2 := hlen
        by_cases hi : i < l.length
        · obtain ⟨x, hx⟩ : ∃ x, l[i]? = some x := ⟨_, List.getElem?_eq_getElem hi⟩
          obtain ⟨bk, o, hA1, hbk, hcells⟩ := its_at HK.out (fun e => by rw [e] at hi; simp at hi)
          have hia := fun W => idx_its l.length c i bk o A W hA1 hi
          have c0' := (HBW.out.cell (p := ⟨bk, o + i * 2, none⟩) hbk).trans (hcells i x hx).1
          have hs := signsN_snoc k l i x hx
          have hm1 := hm.out
          clear hcells hx hA1
          cases hq : (x.f0 == k) with
          | true =>
            rw [hq, if_pos rfl] at hs
            have HG : Hid (m + 1 = n + signsN k (l.take (i + 1))) := Lib.hid (by omega)
            clear hs hm1 hm
            go_wp2
            go_roundw
            case rel => exact ⟨i + 1, m + 1, by go_num, by go_num, by omega, HG, by omega, by first | rfl | trivial⟩
            case measure => simp [RowKit.intOf]; omega
          | false =>
            rw [hq, if_neg (by simp)] at hs
            have HG : Hid (m = n + signsN k (l.take (i + 1))) := Lib.hid (by omega)
            clear hs hm1 hm
            go_wp2
            go_roundw
            case rel => exact ⟨i + 1, m, by go_num, rfl, by omega, HG, by omega, by first | rfl | trivial⟩
            case measure => simp [RowKit.intOf]; omega
        · have hie : i = l.length := by omega
          subst hie
          have HG : Hid (m = sum4 k (ls.take (j + 1))) := Lib.hid (by rw [sum4_snoc k ls j l HL.out, hm.out, hn.out, List.take_length])
          clear hm
          go_wp2
          go_roundw
          case rel => exact ⟨j + 1, m, by go_num, rfl, by omega, HG, by omega, by first | rfl | trivial⟩
          case measure => simp [RowKit.intOf]; omega
    · have hje : j = 4 := by omega
      subst hje
      have hn1 := hn.out
      rw [List.take_of_length_le (by rw [HLEN.out]; exact Nat.le_refl _)] at hn1
      subst hn1
      clear hn
      go_wp2
      go_ret
      exact ⟨rfl, HBW.out⟩
open Go.RowKit Go.Proofs.Ytkgdpgoianimjaa.Utf Go.Proofs.YtkgdpgoianimjaaW.PrintWords Go.Proofs.YtkgdpgoianimjaaW.PrintLast Go.Proofs.YtkgdpgoianimjaaW.PrintMore
set_option linter.unusedVariables false
set_option linter.unusedSimpArgs false
theorem signs_sum (k : Int) (q : PatR) : sum4 k [q.pre, q.suf, q.npre, q.nsuf] = signsF q k := by simp [sum4, signsF]
theorem row4_of {w W : World} {v : Value} {l : List S57} {base : Nat} (h : Kd.R k57 57 w base (fun _ => True) v l) (hb : Below w.heap.size w W) (hl : l.length ≤ 1000000) (j : Nat) : Row4 W j v l := by
  obtain ⟨A, c, h1, h2, h3⟩ := Kd.R_reads (Kd.R_below h hb)
  exact ⟨⟨A, c, h1, h3⟩, hl⟩
/-- Where Compile stands, its pattern in a variable. -/
structure Cs (w W : World) (rb fb pb : Nat) (w0 w1 w3 w4 : Value) (q : PatR) : Prop where
  st : Cst w W rb fb
  plo : w.heap.size ≤ pb
  pr : rb ≠ pb
  pf : fb ≠ pb
  hp : W.heap[pb]? = some (.cells (patP w0 w1 q.hasNeg w3 w4 q.num q.at_ q.pad q.width) 26 (0, 0))
  R0 : Kd.R k57 57 W w.heap.size (fun _ => True) w0 q.pre
  R1 : Kd.R k57 57 W w.heap.size (fun _ => True) w1 q.suf
  R3 : Kd.R k57 57 W w.heap.size (fun _ => True) w3 q.npre
  R4 : Kd.R k57 57 W w.heap.size (fun _ => True) w4 q.nsuf
theorem Cs.step {w W W' : World} {rb fb pb : Nat} {w0 w1 w3 w4 : Value} {q : PatR} (h : Cs w W rb fb pb w0 w1 w3 w4 q) (b : Below W.heap.size W W') : Cs w W' rb fb pb w0 w1 w3 w4 q :=
  ⟨h.st.step b, h.plo, h.pr, h.pf, heap_keeps b h.hp, Kd.R_below h.R0 b, Kd.R_below h.R1 b, Kd.R_below h.R3 b, Kd.R_below h.R4 b⟩
theorem Cs.one {w W : World} {rb fb pb : Nat} {w0 w1 w3 w4 : Value} {q : PatR} (h : Cs w W rb fb pb w0 w1 w3 w4 q) : (patP w0 w1 q.hasNeg w3 w4 q.num q.at_ q.pad q.width).all (·.oneCell') = true :=
  patP_one _ _ _ _ _ _ _ _ _ (Kd.R_val h.R0).2 (Kd.R_val h.R1).2 (Kd.R_val h.R3).2 (Kd.R_val h.R4).2
set_option maxHeartbeats 8000000 in
set_option maxRecDepth 1000000 in
theorem cp18 (w W : World) (rb fb pb : Nat) (w0 w1 w3 w4 : Value) (q : PatR) (hc : Cs w W rb fb pb w0 w1 w3 w4 q) :
    Code.wp Try.prog (Cp 18) (bodyPost Try.prog Try.f6 (CPost (some q) w)) ⟨#[v0,v1, .pointer (some ⟨rb, 0, none⟩), .pointer (some ⟨fb, 0, none⟩),v4,v5,v6,v7,v8,v9,v10,v11,v12, .pointer (some ⟨pb, 0, none⟩),v14,v15,v16,v17,v18,v19,v20,v21,v22,v23,v24,v25,v26,v27,v28,v29,v30,v31,v32,v33,v34,v35,v36,v37,v38,v39,v40,v41,v42,v43,v44,v45,v46,v47,v48,v49,v50,v51,v52,v53,v54,v55,v56,v57,v58,v59,v60,v61,v62,v63,v64,v65,v66,v67,v68,v69,v70,v71,v72,v73,v74,v75,v76,v77,v78,v79,v80,v81,v82,v83,v84,v85,v86,v87,v88,v89,v90,v91,v92,v93,v94,v95,v96,v97,v98,v99,v100,v101,v102,v103,v104,v105,v106,v107,v108,v109,v110,v111,v112,v113,v114,v115,v116,v117,v118,v119,v120,v121,v122,v123,v124,v125,v126,v127,v128,v129,v130,v131,v132,v133,v134,v135,v136,v137,v138,v139,v140,v141,v142,v143,v144,v145,v146,v147,v148,v149,v150,v151,v152,v153,v154,v155,v156,v157,v158,v159,v160,v161,v162,v163,v164,v165,v166,v167,v168,v169,v170,v171,v172,v173,v174,v175,v176,v177,v178,v179], []⟩ W := by
  have HC := Lib.hid hc
  obtain ⟨pcs, hpcs⟩ : ∃ pcs, pcs = patP w0 w1 q.hasNeg w3 w4 q.num q.at_ q.pad q.width := ⟨_, rfl⟩
  have HONE : Hid (pcs.all (·.oneCell') = true) := Lib.hid (by rw [hpcs]; exact hc.one)
  have HSZ : Hid (pcs.size = 20) := Lib.hid (by rw [hpcs]; rfl)
  have HSET : Hid (setAll (patN N.np0) 0 pcs.toList = pcs) := Lib.hid (by rw [hpcs]; exact set_pall _ _ _ _ _ _ _ _ _)
  have HP : Hid (W.heap[pb]? = some (.cells pcs 26 (0, 0))) := Lib.hid (by rw [hpcs]; exact hc.hp)
  have HQ := Lib.hid hpcs
  clear hc hpcs
  rw [show Cp 18 = .seq (stmtOf 18 cpBody) (Cp 19) from by kernel_rfl]
  have hz18 : stmtOf 18 cpBody = stmtOf 18 cpBody := rfl
  conv at hz18 => rhs; whnf
  rw [hz18]; clear hz18
  rw [show Cp 19 = Code.ret from by kernel_rfl]
  go_wp2_with (first
    | ((with_reducible refine gate_dst (N := 178) rfl ?_); refine wpList_load_mid rfl 26 (.tmp 13) rfl pb 0 rfl pcs.toList _ (row_range HP.out) Try.underlying26 rfl (by rw [Array.length_toList, HSZ.out]; kernel_rfl) ?_; rw [arr_back3])
    | ((with_reducible refine gate_store (t := 26) (p := 2) rfl ?_); refine store_any_event rfl rfl rfl rb 0 (.agg pcs) pcs rfl rfl rfl _ _ HC.out.st.res (by rw [HSZ.out]; kernel_rfl) (by rw [HSZ.out]; exact Nat.le_of_ble_eq_true (by kernel_rfl)) HONE.out _ HSET.out ?_; intro W3 g p'; have HG3 := Lib.hid g; have HQ3 := Lib.hid p'; have HF3 := Lib.hid (p'.other HC.out.st.flt HC.out.st.ne.symm); clear g p')
    | ((with_reducible refine gate_store (t := 29) (p := 3) rfl ?_); refine store_any_event rfl rfl rfl fb 0 (.agg #[.int .i64 0, .int .i64 0]) #[.int .i64 0, .int .i64 0] rfl rfl rfl _ _ HF3.out (by kernel_rfl) (Nat.le_of_ble_eq_true (by kernel_rfl)) (all_one2 _ _ rfl rfl) _ (set_flt _ _ _ _) ?_; intro W4 g p'; have HG4 := Lib.hid g; have HQ4 := Lib.hid p'; have HR4 := Lib.hid (p'.other HG3.out HC.out.st.ne); clear g p'))
  refine bodyPost_ret (results_cells2 rfl _ _ rb fb 26 29 pcs #[.int .i64 0, .int .i64 0] (0, 0) (0, 0) _ _ rfl HR4.out Try.underlying26 rfl (by rw [HSZ.out]; kernel_rfl) rfl HG4.out Try.underlying29 rfl (by kernel_rfl)) rfl ?_
  have hs := HC.out.st
  have RP : ∀ v l, Kd.R k57 57 W w.heap.size (fun _ => True) v l → Kd.R k57 57 W4 w.heap.size (fun _ => True) v l := fun v l h =>
    R_put (R_put h hs.res (by decide) HQ3.out) HF3.out (by decide) HQ4.out
  exact ⟨pcs, 0, 0, rfl, HSZ.out, HONE.out, HQ4.out.below (HQ3.out.below hs.below hs.rlo) hs.flo, rfl, w0, w1, w3, w4, HQ.out, RP _ _ HC.out.R0, RP _ _ HC.out.R1, RP _ _ HC.out.R3, RP _ _ HC.out.R4⟩
set_option maxHeartbeats 8000000 in
set_option maxRecDepth 1000000 in
theorem cp17 (w W : World) (rb fb pb : Nat) (w0 w1 w3 w4 : Value) (q : PatR) (r : Option PatR) (hr : r = c17 q) (hc : Cs w W rb fb pb w0 w1 w3 w4 q)
    (l0 : q.pre.length ≤ 1000000) (l1 : q.suf.length ≤ 1000000) (l3 : q.npre.length ≤ 1000000) (l4 : q.nsuf.length ≤ 1000000) :
    Code.wp Try.prog (Cp 17) (bodyPost Try.prog Try.f6 (CPost r w)) ⟨#[v0,v1, .pointer (some ⟨rb, 0, none⟩), .pointer (some ⟨fb, 0, none⟩),v4,v5,v6,v7,v8,v9,v10,v11,v12, .pointer (some ⟨pb, 0, none⟩),v14,v15,v16,v17,v18,v19,v20,v21,v22,v23,v24,v25,v26,v27,v28,v29,v30,v31,v32,v33,v34,v35,v36,v37,v38,v39,v40,v41,v42,v43,v44,v45,v46,v47,v48,v49,v50,v51,v52,v53,v54,v55,v56,v57,v58,v59,v60,v61,v62,v63,v64,v65,v66,v67,v68,v69,v70,v71,v72,v73,v74,v75,v76,v77,v78,v79,v80,v81,v82,v83,v84,v85,v86,v87,v88,v89,v90,v91,v92,v93,v94,v95,v96,v97,v98,v99,v100,v101,v102,v103,v104,v105,v106,v107,v108,v109,v110,v111,v112,v113,v114,v115,v116,v117,v118,v119,v120,v121,v122,v123,v124,v125,v126,v127,v128,v129,v130,v131,v132,v133,v134,v135,v136,v137,v138,v139,v140,v141,v142,v143,v144,v145,v146,v147,v148,v149,v150,v151,v152,v153,v154,v155,v156,v157,v158,v159,v160,v161,v162,v163,v164,v165,v166,v167,v168,v169,v170,v171,v172,v173,v174,v175,v176,v177,v178,v179], []⟩ W := by
  obtain ⟨n4, hn4⟩ : ∃ n4 : Int, n4 = (signsF q 4 : Nat) := ⟨_, rfl⟩
  obtain ⟨n5, hn5⟩ : ∃ n5 : Int, n5 = (signsF q 5 : Nat) := ⟨_, rfl⟩
  obtain ⟨pcs, hpcs⟩ : ∃ pcs, pcs = patP w0 w1 q.hasNeg w3 w4 q.num q.at_ q.pad q.width := ⟨_, rfl⟩
  have HSZ : Hid (pcs.size = 20) := Lib.hid (by rw [hpcs]; rfl)
  have HC4 : Hid (∀ W', Below W.heap.size W W' → Calls Try.prog 18 #[.agg pcs, .int .i64 4] W' fun e w' => e = .returned (.int .i64 n4) ∧ Below W'.heap.size W' w') := Lib.hid fun W' hb => by
    have := signs_calls w0 w1 w3 w4 q.hasNeg q.num q.at_ q.pad q.width 4 q.pre q.suf q.npre q.nsuf W' (row4_of hc.R0 hb l0 0) (row4_of hc.R1 hb l1 1) (row4_of hc.R3 hb l3 2) (row4_of hc.R4 hb l4 3)
    rwa [signs_sum, ← hn4, ← hpcs] at this
  have HC5 : Hid (∀ W', Below W.heap.size W W' → Calls Try.prog 18 #[.agg pcs, .int .i64 5] W' fun e w' => e = .returned (.int .i64 n5) ∧ Below W'.heap.size W' w') := Lib.hid fun W' hb => by
    have := signs_calls w0 w1 w3 w4 q.hasNeg q.num q.at_ q.pad q.width 5 q.pre q.suf q.npre q.nsuf W' (row4_of hc.R0 hb l0 0) (row4_of hc.R1 hb l1 1) (row4_of hc.R3 hb l3 2) (row4_of hc.R4 hb l4 3)
    rwa [signs_sum, ← hn5, ← hpcs] at this
  have HC := Lib.hid hc
  have HP : Hid (W.heap[pb]? = some (.cells pcs 26 (0, 0))) := Lib.hid (by rw [hpcs]; exact hc.hp)
  clear hc l0 l1 l3 l4 hpcs
  by_cases h4 : 0 < n4
  · have t4 : decide (0 < n4) = true := decide_eq_true h4
    by_cases h5 : 0 < n5
    · have t5 : decide (0 < n5) = true := decide_eq_true h5
      have hr2 : r = none := by rw [hr]; unfold c17; exact if_pos ⟨by omega, by omega⟩
      subst hr2
      clear hr hn4 hn5 h4 h5
      rw [show Cp 17 = .seq (stmtOf 17 cpBody) (Cp 18) from by kernel_rfl]
      have hz17 : stmtOf 17 cpBody = stmtOf 17 cpBody := rfl
      conv at hz17 => rhs; whnf
      rw [hz17]; clear hz17
      go_wp2_with (first
        | ((with_reducible refine gate_dst (N := 168) rfl ?_); refine wpList_load_mid rfl 26 (.tmp 13) rfl pb 0 rfl pcs.toList _ (row_range HP.out) Try.underlying26 rfl (by rw [Array.length_toList, HSZ.out]; kernel_rfl) ?_; rw [arr_back3])
        | ((with_reducible refine gate_dst (N := 172) rfl ?_); (try (refine gate_guard (by rfl) ?_; dsimp only)); refine wpList_load_mid rfl 26 (.tmp 13) rfl pb 0 rfl pcs.toList _ (row_range (heap_keeps HB1.out HP.out)) Try.underlying26 rfl (by rw [Array.length_toList, HSZ.out]; kernel_rfl) ?_; rw [arr_back3])
        | (go_at_call 18; (with_reducible refine (HC4.out _ (Below.refl _ _)).mono ?_); rintro e1 W1 ⟨rfl, b1⟩; have HB1 := Lib.hid b1; clear b1)
        | (go_at_call 18; (with_reducible refine (HC5.out _ HB1.out).mono ?_); rintro e1 W2 ⟨rfl, b2⟩; have HB2 := Lib.hid (below_step HB1.out b2); have HC2 := Lib.hid (HC.out.step HB2.out); clear b2)
        | ((with_reducible refine gate_store (t := 26) (p := 2) rfl ?_); refine store_any_event rfl rfl rfl rb 0 (.agg (patN N.np0)) (patN N.np0) rfl rfl rfl _ _ HC2.out.st.res (by kernel_rfl) (Nat.le_of_ble_eq_true (by kernel_rfl)) (patN_one _) _ (set_pat0 _) ?_; intro W3 g p'; have HG3 := Lib.hid g; have HQ3 := Lib.hid p'; have HF3 := Lib.hid (p'.other HC2.out.st.flt HC2.out.st.ne.symm); clear g p')
        | ((with_reducible refine gate_store (t := 29) (p := 3) rfl ?_); refine store_any_event rfl rfl rfl fb 0 (.agg #[.int .i64 6, .int .i64 0]) #[.int .i64 6, .int .i64 0] rfl rfl rfl _ _ HF3.out (by kernel_rfl) (Nat.le_of_ble_eq_true (by kernel_rfl)) (all_one2 _ _ rfl rfl) _ (set_flt _ _ _ _) ?_; intro W4 g p'; have HG4 := Lib.hid g; have HQ4 := Lib.hid p'; have HR4 := Lib.hid (p'.other HG3.out HC2.out.st.ne); clear g p'))
      refine bodyPost_ret (results_cells2 rfl _ _ rb fb 26 29 (patN N.np0) #[.int .i64 6, .int .i64 0] (0, 0) (0, 0) _ _ rfl HR4.out Try.underlying26 rfl (by kernel_rfl) rfl HG4.out Try.underlying29 rfl (by kernel_rfl)) rfl ?_
      exact comp_out 6 0 (by decide) (HQ4.out.below (HQ3.out.below HC2.out.st.below HC2.out.st.rlo) HC2.out.st.flo) _ rfl
    · have t5 : decide (0 < n5) = false := decide_eq_false h5
      have hr2 : r = some q := by rw [hr]; unfold c17; exact if_neg (by omega)
      subst hr2
      clear hr hn4 hn5 h4 h5
      rw [show Cp 17 = .seq (stmtOf 17 cpBody) (Cp 18) from by kernel_rfl]
      have hz17 : stmtOf 17 cpBody = stmtOf 17 cpBody := rfl
      conv at hz17 => rhs; whnf
      rw [hz17]; clear hz17
      go_wp2_with (first
        | ((with_reducible refine gate_dst (N := 168) rfl ?_); refine wpList_load_mid rfl 26 (.tmp 13) rfl pb 0 rfl pcs.toList _ (row_range HP.out) Try.underlying26 rfl (by rw [Array.length_toList, HSZ.out]; kernel_rfl) ?_; rw [arr_back3])
        | ((with_reducible refine gate_dst (N := 172) rfl ?_); (try (refine gate_guard (by rfl) ?_; dsimp only)); refine wpList_load_mid rfl 26 (.tmp 13) rfl pb 0 rfl pcs.toList _ (row_range (heap_keeps HB1.out HP.out)) Try.underlying26 rfl (by rw [Array.length_toList, HSZ.out]; kernel_rfl) ?_; rw [arr_back3])
        | (go_at_call 18; (with_reducible refine (HC4.out _ (Below.refl _ _)).mono ?_); rintro e1 W1 ⟨rfl, b1⟩; have HB1 := Lib.hid b1; clear b1)
        | (go_at_call 18; (with_reducible refine (HC5.out _ HB1.out).mono ?_); rintro e1 W2 ⟨rfl, b2⟩; have HB2 := Lib.hid (below_step HB1.out b2); have HC2 := Lib.hid (HC.out.step HB2.out); clear b2))
      exact cp18 w W2 rb fb pb w0 w1 w3 w4 q HC2.out
  · have t4 : decide (0 < n4) = false := decide_eq_false h4
    have hr2 : r = some q := by rw [hr]; unfold c17; exact if_neg (by omega)
    subst hr2
    clear hr hn4 hn5 h4
    rw [show Cp 17 = .seq (stmtOf 17 cpBody) (Cp 18) from by kernel_rfl]
    have hz17 : stmtOf 17 cpBody = stmtOf 17 cpBody := rfl
    conv at hz17 => rhs; whnf
    rw [hz17]; clear hz17
    go_wp2_with (first
      | ((with_reducible refine gate_dst (N := 168) rfl ?_); refine wpList_load_mid rfl 26 (.tmp 13) rfl pb 0 rfl pcs.toList _ (row_range HP.out) Try.underlying26 rfl (by rw [Array.length_toList, HSZ.out]; kernel_rfl) ?_; rw [arr_back3])
      | (go_at_call 18; (with_reducible refine (HC4.out _ (Below.refl _ _)).mono ?_); rintro e1 W1 ⟨rfl, b1⟩; have HB1 := Lib.hid b1; have HC2 := Lib.hid (HC.out.step HB1.out); clear b1))
    exact cp18 w W1 rb fb pb w0 w1 w3 w4 q HC2.out
end Go.Proofs.Ytkgdpgoianimjaa.Print
