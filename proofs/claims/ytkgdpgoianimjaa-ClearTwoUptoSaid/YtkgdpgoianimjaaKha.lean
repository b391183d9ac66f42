/- The reference's half: its words, and what stands behind its padding. (Several texts, merged by this session's own program.) -/
import Derived.Test.YtkgdpgoianimjaaKr
import Derived.Test.YtkgdpgoianimjaaKwb
import Derived.Deep.RegionHeld3
import Derived.Test.YtkgdpgoianimjaaPrint4
import Derived.Test.YtkgdpgoianimjaaPrint3
namespace Go.Proofs.Ytkgdpgoianimjaa.Print
variable {v0 v1 v2 v3 v4 v5 v6 v7 v8 v9 v10 v11 v12 v13 v14 v15 v16 v17 v18 v19 v20 v21 v22 v23 v24 v25 v26 v27 v28 v29 v30 v31 v32 v33 v34 v35 v36 v37 v38 v39 v40 v41 v42 v43 v44 v45 v46 v47 v48 v49 v50 v51 v52 v53 v54 v55 v56 v57 v58 v59 v60 v61 v62 v63 v64 v65 v66 v67 v68 v69 v70 v71 v72 v73 v74 v75 v76 v77 v78 v79 v80 v81 v82 v83 v84 v85 v86 v87 v88 v89 v90 v91 v92 v93 v94 v95 v96 v97 v98 v99 v100 v101 v102 v103 v104 v105 v106 v107 v108 v109 v110 v111 v112 v113 v114 v115 v116 v117 v118 v119 v120 v121 v122 v123 v124 v125 v126 v127 v128 v129 v130 v131 v132 v133 v134 v135 v136 v137 v138 v139 v140 v141 v142 v143 v144 v145 v146 v147 v148 v149 v150 v151 v152 v153 v154 v155 v156 v157 v158 v159 v160 v161 v162 v163 v164 v165 v166 v167 v168 v169 v170 v171 v172 v173 v174 v175 v176 v177 v178 v179 v180 v181 v182 v183 v184 v185 v186 v187 v188 v189 v190 v191 v192 v193 v194 v195 v196 v197 v198 v199 v200 v201 v202 v203 v204 v205 v206 v207 v208 v209 v210 v211 v212 v213 v214 v215 v216 v217 v218 v219 v220 v221 v222 v223 v224 v225 v226 v227 v228 v229 v230 v231 v232 v233 v234 v235 v236 v237 v238 v239 v240 v241 v242 v243 v244 v245 v246 : Value}
open Go.RowKit Go.Proofs.Ytkgdpgoianimjaa.Utf Go.Proofs.YtkgdpgoianimjaaW.PrintWords Go.Proofs.YtkgdpgoianimjaaW.PrintLast Go.Proofs.YtkgdpgoianimjaaW.PrintMore
set_option linter.unusedVariables false
set_option linter.unusedSimpArgs false

/-- A token, or padding. -/
structure El where
  t : S48
  p : Bool
def kEl : Kd El := Kd.iso (Kd.pair k48 Kd.bool) (fun x : El => (x.t, x.p))
theorem kEl_open {w : World} {x : El} {cs : List Value} (h : kEl.K w x cs) : cs = [.int .i32 x.t.f0, .bool x.t.f1, .int .i64 x.t.f2, .bool x.p] := by
  obtain ⟨_, _, rfl, hk, rfl⟩ := h
  obtain rfl := k48_open hk
  rfl
theorem kEl_mkM (w : World) (base : Nat) (ok : Nat → Prop) (x : El) : kEl.M w base ok x [.int .i32 x.t.f0, .bool x.t.f1, .int .i64 x.t.f2, .bool x.p] :=
  ⟨[.int .i32 x.t.f0, .bool x.t.f1, .int .i64 x.t.f2], [.bool x.p], rfl, k48_mkM _ _ _ _, rfl⟩
/-- A row of elements that is read: where it lies. -/
theorem els_at {w : World} {A : Option Addr} {l : List El} (h : Kd.C kEl w A l.length l) (hl : l ≠ []) :
    ∃ bk o, A = some ⟨bk, o, none⟩ ∧ bk < w.heap.size ∧ ∀ (j : Nat) x, l[j]? = some x → w.cell? ⟨bk, o + j * 4, none⟩ = some (.int .i32 x.t.f0) ∧ w.cell? ⟨bk, o + j * 4 + 1, none⟩ = some (.bool x.t.f1) ∧ w.cell? ⟨bk, o + j * 4 + 2, none⟩ = some (.int .i64 x.t.f2) ∧ w.cell? ⟨bk, o + j * 4 + 3, none⟩ = some (.bool x.p) := by
  obtain ⟨_, _, hc⟩ := h
  obtain ⟨⟨bk, o, sp⟩, rfl, hc2⟩ := hc (List.length_pos_iff.2 hl)
  have one : ∀ (j : Nat) x, l[j]? = some x → w.cell? (Addr.add ⟨bk, o, sp⟩ (j * 4)) = some (.int .i32 x.t.f0) ∧ w.cell? (Addr.add ⟨bk, o, sp⟩ (j * 4 + 1)) = some (.bool x.t.f1) ∧ w.cell? (Addr.add ⟨bk, o, sp⟩ (j * 4 + 2)) = some (.int .i64 x.t.f2) ∧ w.cell? (Addr.add ⟨bk, o, sp⟩ (j * 4 + 3)) = some (.bool x.p) := fun j x hx => by
    obtain ⟨c, _, hK, hcell⟩ := hc2 j x hx
    obtain rfl := kEl_open hK
    exact ⟨hcell 0 _ rfl, hcell 1 _ rfl, hcell 2 _ rfl, hcell 3 _ rfl⟩
  obtain ⟨x, r, rfl⟩ := List.exists_cons_of_ne_nil hl
  have h0 := (one 0 x rfl).1
  rw [show (Addr.add ⟨bk, o, sp⟩ (0 * 4)) = ⟨bk, o, sp⟩ by simp [Addr.add]] at h0
  obtain rfl := cell_spot h0
  exact ⟨bk, o, rfl, World.block_lt_of_cell? w _ h0, fun j x hx => by have := one j x hx; rw [Addr.add_lit, Addr.add_lit, Addr.add_lit, Addr.add_lit] at this; exact this⟩
theorem z_el : ∀ w, (Go.sizeOf 50).run Try.prog w = .ok 4 w := fun w => by kernel_rfl
theorem idx_els (n c i bk o : Nat) (A : Option Addr) (W : World) (hA : A = some ⟨bk, o, none⟩) (hi : i < n) :
    (Instr.indexAt 46 (.slice A n c) (.int .i64 (i : Int))).run Try.prog W = .ok (.pointer (some ⟨bk, o + i * 4, none⟩)) W := by
  subst hA
  have ht : Try.prog.underlying 46 = some (.slice (Try.prog.elem 46)) := by kernel_rfl
  have he : Try.prog.elem 46 = 50 := by kernel_rfl
  rw [run_indexAt_slice _ _ _ _ _ _ _ ht, he, if_pos ⟨by omega, by omega⟩, z_el]
  simp [Result.andThen, Addr.add_lit]
/-- A plain character of a number? -/
def bodyB (x : El) : Bool := !x.p && !x.t.f1 && markB x.t.f0 && (x.t.f0 != 59) && (x.t.f0 != 42)
def plainB (x : El) (r : Int) : Bool := !x.p && !x.t.f1 && (x.t.f0 == r)
theorem body_at (x : El) (W : World) : Calls Try.prog 36 #[.agg #[.int .i32 x.t.f0, .bool x.t.f1, .int .i64 x.t.f2, .bool x.p]] W fun e w' => e = .returned (.bool (bodyB x)) ∧ Below W.heap.size W w' := by
  refine figureheadref13_Elem_body.calls _ _ _ _ _ W ?_
  unfold figureheadref13_Elem_body.f bodyB
  rw [refMark_val]
  obtain ⟨⟨q, b, a⟩, p⟩ := x
  cases p <;> cases b <;> simp
  cases markB q <;> simp
  by_cases h : q = 59 <;> simp [h]
theorem plain_at (x : El) (r : Int) (W : World) : Calls Try.prog 16 #[.agg #[.int .i32 x.t.f0, .bool x.t.f1, .int .i64 x.t.f2, .bool x.p], .int .i32 r] W fun e w' => e = .returned (.bool (plainB x r)) ∧ Below W.heap.size W w' := by
  refine figureheadref13_Elem_plain.calls _ _ _ _ _ _ W ?_
  unfold figureheadref13_Elem_plain.f plainB
  obtain ⟨⟨q, b, a⟩, p⟩ := x
  cases p <;> cases b <;> simp
/-- As far as they are so, from a place on. -/
def runN (q : El → Bool) (l : List El) (i : Nat) : Nat := i + ((l.drop i).takeWhile q).length
theorem drop_getE {α : Type} {l : List α} {i : Nat} {x : α} (hx : l[i]? = some x) : l.drop i = x :: l.drop (i + 1) := by
  obtain ⟨h1, h2⟩ := List.getElem?_eq_some_iff.1 hx
  rw [← h2]; exact List.drop_eq_getElem_cons h1
theorem runN_step {q : El → Bool} {l : List El} {i : Nat} {x : El} (hx : l[i]? = some x) (h : q x = true) : runN q l i = runN q l (i + 1) := by
  unfold runN
  rw [drop_getE hx, List.takeWhile_cons_of_pos h, List.length_cons]
  omega
theorem runN_stop {q : El → Bool} {l : List El} {i : Nat} {x : El} (hx : l[i]? = some x) (h : q x = false) : runN q l i = i := by
  unfold runN
  rw [drop_getE hx, List.takeWhile_cons_of_neg (by rw [h]; simp)]
  rfl
theorem runN_end {q : El → Bool} {l : List El} {i : Nat} (h : l.length ≤ i) : runN q l i = i := by
  unfold runN
  rw [List.drop_of_length_le h]
  rfl
theorem runN_le (q : El → Bool) (l : List El) (i : Nat) (h : i ≤ l.length) : runN q l i ≤ l.length := by
  unfold runN
  have h1 : ((l.drop i).takeWhile q).length ≤ (l.drop i).length := (List.takeWhile_sublist q).length_le
  rw [List.length_drop] at h1
  omega
/-- Where the number ends. -/
def endF (l : List El) (n : Nat) : Nat :=
  match l[runN bodyB l n]? with
  | none => runN bodyB l n
  | some x => if plainB x 69 = true then (match l[runN bodyB l n + 1]? with
      | none => runN bodyB l n + 1
      | some y => runN bodyB l (if plainB y 43 = true then runN bodyB l n + 2 else runN bodyB l n + 1)) else runN bodyB l n
/-- What a padding's place is called. -/
def atOf (n e len : Nat) (i : Nat) : Int := if i = 0 then 1 else if i + 1 = n then 2 else if i = e then 3 else if i + 1 = len then 4 else 0
def padsF (f : Nat → Int) (first : Bool) : Nat → List El → Nat → Int × Int → Option (Int × Int)
  | _, [], _, c => some c
  | i, x :: t, k, c => if x.p = true then (if f i = 0 ∨ 0 < k ∨ first = false then none else padsF f first (i + 1) t (k + 1) (f i, x.t.f0)) else padsF f first (i + 1) t k c
def bytesB (r : Int) : ByteArray := strOfNums ((figureheadref11_Bytes.f r).getD [])
def splitF (n e : Nat) : Nat → List El → List S48 × ByteArray × List S48 → List S48 × ByteArray × List S48
  | _, [], c => c
  | i, x :: t, c => if x.p = true then splitF n e (i + 1) t c else if i < n then splitF n e (i + 1) t (c.1 ++ [x.t], c.2.1, c.2.2) else if i < e then splitF n e (i + 1) t (c.1, c.2.1 ++ bytesB x.t.f0, c.2.2) else splitF n e (i + 1) t (c.1, c.2.1, c.2.2 ++ [x.t])
structure HalfR where
  pre : List S57
  suf : List S57
  num : N.NP
  at_ : Int
  pad : Int
  long : Int
def h17 (c : Int × Int) (s : ByteArray) (b : List S48) (x : List S57) (p : N.NP) : Option HalfR :=
  if (itemsGo b []).2.1 = 0 then some ⟨x, (itemsGo b []).1, p, c.1, c.2, s.size⟩ else none
def h15 (c : Int × Int) (s : ByteArray) (b : List S48) (x : List S57) : Option HalfR :=
  if (N.numN (N.L s)).2 = 0 then h17 c s b x (N.numN (N.L s)).1 else none
def h13 (c : Int × Int) (a : List S48) (s : ByteArray) (b : List S48) : Option HalfR :=
  if (itemsGo a []).2.1 = 0 then h15 c s b (itemsGo a []).1 else none
def h12 (n e : Nat) (l : List El) (c : Int × Int) : Option HalfR :=
  h13 c (splitF n e 0 l ([], ⟨#[]⟩, [])).1 (splitF n e 0 l ([], ⟨#[]⟩, [])).2.1 (splitF n e 0 l ([], ⟨#[]⟩, [])).2.2
def h9 (n e : Nat) (first : Bool) (l : List El) : Option HalfR :=
  match padsF (atOf n e l.length) first 0 l 0 (0, 0) with
  | none => none
  | some c => h12 n e l c
def h3 (first : Bool) (l : List El) (n : Nat) : Option HalfR := if n = l.length then none else h9 n (endF l n) first l
/-- What half says: none where it says an error. -/
def halfF (l : List El) (first : Bool) : Option HalfR := h3 first l (runN (fun x => !bodyB x) l 0)
def halfC (v0 v1 : Value) (p : N.NP) (a d n : Int) : Array Value := #[v0, v1, .slice none 0 0, .slice none 0 0, .bool false, .slice none 0 0, .slice none 0 0, .int .i64 p.minInt, .int .i64 p.maxInt, .int .i64 p.minFrac, .int .i64 p.maxFrac, .int .i64 p.minSig, .int .i64 p.maxSig, .int .i64 p.prim, .int .i64 p.sec, .string (mkB p.inc), .bool p.sci, .int .i64 p.minExp, .bool p.plus, .int .i64 0, .int .i32 0, .int .i64 0, .int .i64 a, .int .i32 d, .int .i64 n]
def half0 : Array Value := halfC (.slice none 0 0) (.slice none 0 0) N.np0 0 0 0
def HOut (r : Option HalfR) (w : World) (hcs : Array Value) (E : Int) (w' : World) : Prop :=
  match r with
  | none => E ≠ 0
  | some r => E = 0 ∧ ∃ v0 v1 : Value, hcs = halfC v0 v1 r.num r.at_ r.pad r.long ∧ Kd.R k57 57 w' w.heap.size (fun _ => True) v0 r.pre ∧ Kd.R k57 57 w' w.heap.size (fun _ => True) v1 r.suf
def HPost (r : Option HalfR) (w : World) (e : Ending) (w' : World) : Prop :=
  ∃ (hcs : Array Value) (E at_ : Int), e = .returned (.tuple #[.agg hcs, .agg #[.int .i64 E, .int .i64 at_]]) ∧ hcs.size = 25 ∧ hcs.all (·.oneCell') = true ∧ Below w.heap.size w w' ∧ HOut r w hcs E w'
/-- Where the call stands: rb, fb are the results' variables. -/
structure Hst (w W : World) (rb fb : Nat) : Prop where
  below : Below w.heap.size w W
  rlo : w.heap.size ≤ rb
  flo : w.heap.size ≤ fb
  ne : rb ≠ fb
  res : W.heap[rb]? = some (.cells half0 53 (0, 0))
  flt : W.heap[fb]? = some (.cells #[.int .i64 0, .int .i64 0] 29 (0, 0))
theorem Hst.step {w W W' : World} {rb fb : Nat} (h : Hst w W rb fb) (b : Below W.heap.size W W') : Hst w W' rb fb :=
  ⟨below_step h.below b, h.rlo, h.flo, h.ne, heap_keeps b h.res, heap_keeps b h.flt⟩
theorem results_cells2 {P : Program} {fn : Func} {p q : Tmp} {ty ty2 : TypeId} (h : fn.results = #[.cell p ty, .cell q ty2]) (tmps : Array Value) (w : World) (g g2 : Nat) (t t2 : TypeId) (cs cs2 : Array Value) (fr fr2 : Nat × Nat) (d d2 : TypeDesc)
    (hp : tmps.getD p undef = .pointer (some ⟨g, 0, none⟩)) (hg : w.heap[g]? = some (.cells cs t fr))
    (hu : P.underlying ty = some d) (hd : (match d with | .struct _ | .array _ _ => true | _ => false) = true) (hi : (P.info? ty).map (·.size) = some cs.size)
    (hp2 : tmps.getD q undef = .pointer (some ⟨g2, 0, none⟩)) (hg2 : w.heap[g2]? = some (.cells cs2 t2 fr2))
    (hu2 : P.underlying ty2 = some d2) (hd2 : (match d2 with | .struct _ | .array _ _ => true | _ => false) = true) (hi2 : (P.info? ty2).map (·.size) = some cs2.size) :
    (results fn tmps).run P w = .ok (.tuple #[.agg cs, .agg cs2]) w := by
  have hp' : tmps[p]?.getD undef = .pointer (some ⟨g, 0, none⟩) := by simpa using hp
  have hq' : tmps[q]?.getD undef = .pointer (some ⟨g2, 0, none⟩) := by simpa using hp2
  simp [results, h, hp', hq', asAddr, run_loadVar_row w g t ty cs fr d hg hu hd hi, run_loadVar_row w g2 t2 ty2 cs2 fr2 d2 hg2 hu2 hd2 hi2]
noncomputable def hfBody : Code := (Try.f17.body).getD .skip
noncomputable def Hf (k : Nat) : Code := restOf k hfBody
theorem halfC_one (v0 v1 : Value) (p : N.NP) (a d n : Int) (h0 : v0.oneCell' = true) (h1 : v1.oneCell' = true) : (halfC v0 v1 p a d n).all (·.oneCell') = true := by
  simp [halfC, h0, h1]
  simp [Value.oneCell']
theorem halfC_size (v0 v1 : Value) (p : N.NP) (a d n : Int) : (halfC v0 v1 p a d n).size = 25 := rfl
theorem half0_one : half0.all (·.oneCell') = true := halfC_one _ _ _ _ _ _ rfl rfl
/-- An error's way out. -/
theorem half_out {w W W' : World} {rb fb : Nat} (E at_ : Int) (hE : E ≠ 0) (h : Below w.heap.size w W') (e : Ending) (he : e = .returned (.tuple #[.agg half0, .agg #[.int .i64 E, .int .i64 at_]])) : HPost none w e W' :=
  ⟨half0, E, at_, he, halfC_size _ _ _ _ _ _, half0_one, h, hE⟩
open Go.RowKit Go.Proofs.Ytkgdpgoianimjaa.Utf Go.Proofs.YtkgdpgoianimjaaW.PrintWords Go.Proofs.YtkgdpgoianimjaaW.PrintLast Go.Proofs.YtkgdpgoianimjaaW.PrintMore
set_option linter.unusedVariables false
set_option linter.unusedSimpArgs false
def setAll : Array Value → Nat → List Value → Array Value
  | cs, _, [] => cs
  | cs, o, v :: r => setAll (cs.setIfInBounds o v) (o + 1) r
theorem blk_cells {g : Nat} {e : TypeId} : ∀ (vs : List Value) (o : Nat) (w : World) (cs : Array Value), w.heap[g]? = some (.cells cs e (0, 0)) → (w.setCells g o vs).heap[g]? = some (.cells (setAll cs o vs) e (0, 0))
  | [], _, _, _, h => h
  | v :: r, o, w, cs, h => blk_cells r (o + 1) _ _ (blk_put h o v rfl)
theorem putAt_refl (g : Nat) (w : World) : PutAt g w w := ⟨fun h _ => h, fun h _ => h, rfl⟩
theorem putAt_cells {g : Nat} : ∀ (vs : List Value) (o : Nat) (w : World), PutAt g w (w.setCells g o vs)
  | [], _, w => putAt_refl g w
  | v :: r, o, w => by
    have h := putAt_cells (g := g) r (o + 1) (w.setCell ⟨g, o, none⟩ v)
    refine ⟨fun hb hw => h.below (below_set hb hw) hw, fun hk hn => h.other ((heap_setCell_other _ _ _ _ hn).trans hk) hn, h.size.trans ?_⟩
    simp [World.setCell]
theorem blk_there {w : World} {g : Nat} {cs : Array Value} {e : TypeId} (h : w.heap[g]? = some (.cells cs e (0, 0))) (o n : Nat) (hn : o + n ≤ cs.size) : w.there g o n := fun j hj => by
  refine ⟨?_, blk_frozen h (o + j)⟩
  rw [blk_cell h (o + j), Array.getElem?_eq_getElem (show o + j < cs.size by omega)]
  rfl
theorem run_storeVar_any {P : Program} (w : World) (b o : Nat) (ty : TypeId) (v : Value) (cells : Array Value) (hv : v.cells = cells) (ht : w.there b o cells.size) (hi : (P.info? ty).map (·.size) = some cells.size) (h1 : cells.all (·.oneCell') = true) :
    (storeVar ty ⟨b, o, none⟩ v).run P w = .ok () (w.setCells b o cells.toList) := by
  have := run_storeVar_mid (P := P) w b o ty cells ht hi h1
  unfold storeVar at this ⊢
  rw [show (Value.agg cells).cells = cells from rfl] at this
  rw [hv]
  exact this
theorem wpK_store {P : Program} {op : Oper} {a : Act} {W : World} {K : Act → World → Prop} {Q : Exit → Act → World → Prop} (ty : TypeId) (x y : Operand) (ho : op.op = .store ty x y)
    (g o : Nat) (v : Value) (cells : Array Value) (hx : a.eval x = .pointer (some ⟨g, o, none⟩)) (hy : a.eval y = v) (hv : v.cells = cells) (old : Array Value) (e : TypeId) (hg : W.heap[g]? = some (.cells old e (0, 0)))
    (hi : (P.info? ty).map (·.size) = some cells.size) (hs : o + cells.size ≤ old.size) (h1 : cells.all (·.oneCell') = true)
    (new : Array Value) (hn : setAll old o cells.toList = new) (h : ∀ w', w'.heap[g]? = some (.cells new e (0, 0)) → PutAt g W w' → K (a.put op.dst undef) w') : op.wp P a W K Q := by
  unfold Oper.wp execOp
  simp only [ho, hx, hy, Instr.storeAt, Instr.sureAddr, Sem.run_bind, Sem.run_pure, Result.andThen_ok, run_storeVar_any W g o ty v cells hv (blk_there hg o _ hs) hi h1]
  refine h _ ?_ (putAt_cells _ _ _)
  rw [← hn]
  exact blk_cells _ _ _ _ hg
/-- In a plain region's list. -/
theorem store_any_event {P : Program} {ops : Array Oper} {rest : List Oper} {op : Oper} {a : Act} {Q : Exit → Act → World → Prop} {W : World} (hgd : op.guard = none) (hN : op.dst = none) {ty : TypeId} {x y : Operand} (ho : op.op = .store ty x y)
    (g o : Nat) (v : Value) (cells : Array Value) (hx : a.eval x = .pointer (some ⟨g, o, none⟩)) (hy : a.eval y = v) (hv : v.cells = cells) (old : Array Value) (e : TypeId) (hg : W.heap[g]? = some (.cells old e (0, 0)))
    (hi : (P.info? ty).map (·.size) = some cells.size) (hs : o + cells.size ≤ old.size) (h1 : cells.all (·.oneCell') = true)
    (new : Array Value) (hn : setAll old o cells.toList = new) (h : ∀ w', w'.heap[g]? = some (.cells new e (0, 0)) → PutAt g W w' → wpList P ops Q rest a w') : wpList P ops Q (op :: rest) a W :=
  wpList_plain hgd fun K hK => wpK_store ty x y ho g o v cells hx hy hv old e hg hi hs h1 new hn fun w' h1 h2 => hK _ _ (by rw [hN]; exact h w' h1 h2)
theorem Hst.store {w W W' : World} {rb fb : Nat} (h : Hst w W rb fb) {g : Nat} (hp : PutAt g W W') (hg : w.heap.size ≤ g) (h1 : rb ≠ g) (h2 : fb ≠ g) : Hst w W' rb fb :=
  ⟨hp.below h.below hg, h.rlo, h.flo, h.ne, hp.other h.res h1, hp.other h.flt h2⟩
/-- A cell of another block. -/
theorem put_cell {g : Nat} {W W' : World} (hp : PutAt g W W') {b o : Nat} {v : Value} (hn : b ≠ g) (h : W.cell? ⟨b, o, none⟩ = some v) : W'.cell? ⟨b, o, none⟩ = some v := by
  have hlt := World.block_lt_of_cell? W _ h
  have he : W'.heap[b]? = W.heap[b]? := by
    have hb : W.heap[b]? = some W.heap[b] := Array.getElem?_eq_getElem hlt
    rw [hb]
    exact hp.other hb hn
  rw [← h]
  simp [World.cell?, he]
theorem set_half0 (v0 v1 : Value) (p : N.NP) (a d n : Int) : setAll half0 0 (halfC v0 v1 p a d n).toList = halfC v0 v1 p a d n := by kernel_rfl
theorem set_pat (v0 v1 : Value) (p q : N.NP) (a d n : Int) : setAll (halfC v0 v1 p a d n) 2 (patN q).toList = halfC v0 v1 q a d n := by kernel_rfl
theorem set_h0 (v0 v1 v : Value) (p : N.NP) (a d n : Int) : setAll (halfC v0 v1 p a d n) 0 [v] = halfC v v1 p a d n := by kernel_rfl
theorem set_h1 (v0 v1 v : Value) (p : N.NP) (a d n : Int) : setAll (halfC v0 v1 p a d n) 1 [v] = halfC v0 v p a d n := by kernel_rfl
theorem set_h22 (v0 v1 : Value) (p : N.NP) (a d n x : Int) : setAll (halfC v0 v1 p a d n) 22 [.int .i64 x] = halfC v0 v1 p x d n := by kernel_rfl
theorem set_h23 (v0 v1 : Value) (p : N.NP) (a d n x : Int) : setAll (halfC v0 v1 p a d n) 23 [.int .i32 x] = halfC v0 v1 p a x n := by kernel_rfl
theorem set_h24 (v0 v1 : Value) (p : N.NP) (a d n x : Int) : setAll (halfC v0 v1 p a d n) 24 [.int .i64 x] = halfC v0 v1 p a d x := by kernel_rfl
theorem set_flt (x y a b : Value) : setAll #[x, y] 0 [a, b] = #[a, b] := by kernel_rfl
open Go.RowKit Go.Proofs.Ytkgdpgoianimjaa.Utf Go.Proofs.YtkgdpgoianimjaaW.PrintWords Go.Proofs.YtkgdpgoianimjaaW.PrintLast Go.Proofs.YtkgdpgoianimjaaW.PrintMore
set_option linter.unusedVariables false
set_option linter.unusedSimpArgs false
theorem all_one1 (v : Value) (h : v.oneCell' = true) : (#[v]).all (·.oneCell') = true := by simp [h]
theorem all_one2 (v u : Value) (h : v.oneCell' = true) (h2 : u.oneCell' = true) : (#[v, u]).all (·.oneCell') = true := by simp [h, h2]
theorem arr_back3 {α : Type} (a : Array α) : a.toList.toArray = a := by simp
theorem yields_row {P : Program} {ops : Array Oper} {S : World → Prop} {op : Oper} {a : Act} (hw : Region.wanted op (yielded ops a.tmps) = true) (ty : TypeId) (x : Operand) (ho : op.op = .load ty x)
    (b : Nat) (hx : a.eval x = .pointer (some ⟨b, 0, none⟩)) (cs : Array Value) (d : TypeDesc) (hS : ∀ w, S w → w.rangeAt b 0 cs.toList)
    (hu : P.underlying ty = some d) (hd : d.isRow = true) (hi : (P.info? ty).map (·.size) = some cs.toList.length) : YieldsIf P ops S op (.agg cs) a := by
  have := yieldsIf_load_mid (P := P) (ops := ops) hw ty x ho b 0 hx cs.toList d hS hu hd hi
  rwa [arr_back3] at this
set_option maxHeartbeats 8000000 in
set_option maxRecDepth 1000000 in
theorem hf19 (w W : World) (rb fb hb pb : Nat) (s : ByteArray) (A0 A1 : Option Addr) (n0 c0 n1 c1 : Nat) (at_ pad : Int) (p : N.NP) (x y : List S57) (hst : Hst w W rb fb)
    (hh : W.heap[hb]? = some (.cells (halfC (.slice none 0 0) (.slice none 0 0) N.np0 at_ pad 0) 53 (0, 0))) (hhl : w.heap.size ≤ hb) (hrh : rb ≠ hb) (hfh : fb ≠ hb)
    (hp : W.heap[pb]? = some (.cells (patN p) 26 (0, 0))) (hph : hb ≠ pb)
    (R0 : ∀ W', W'.heap.size = W.heap.size → (∀ k o, W.heap[k]? = some o → k ≠ rb → k ≠ fb → k ≠ hb → W'.heap[k]? = some o) → Kd.R k57 57 W' w.heap.size (fun _ => True) (.slice A0 n0 c0) x)
    (R1 : ∀ W', W'.heap.size = W.heap.size → (∀ k o, W.heap[k]? = some o → k ≠ rb → k ≠ fb → k ≠ hb → W'.heap[k]? = some o) → Kd.R k57 57 W' w.heap.size (fun _ => True) (.slice A1 n1 c1) y) :
    Code.wp Try.prog (Hf 19) (bodyPost Try.prog Try.f17 (HPost (some ⟨x, y, p, at_, pad, s.size⟩) w)) ⟨#[v0,v1,v2,v3,v4,v5, .pointer (some ⟨rb, 0, none⟩), .pointer (some ⟨fb, 0, none⟩),v8,v9, .pointer (some ⟨hb, 0, none⟩),v11,v12,v13,v14,v15, .string s,v17, .slice A0 n0 c0,v19, .pointer (some ⟨pb, 0, none⟩),v21, .slice A1 n1 c1,v23,v24,v25,v26,v27,v28,v29,v30,v31,v32,v33,v34,v35,v36,v37,v38,v39,v40,v41,v42,v43,v44,v45,v46,v47,v48,v49,v50,v51,v52,v53,v54,v55,v56,v57,v58,v59,v60,v61,v62,v63,v64,v65,v66,v67,v68,v69,v70,v71,v72,v73,v74,v75,v76,v77,v78,v79,v80,v81,v82,v83,v84,v85,v86,v87,v88,v89,v90,v91,v92,v93,v94,v95,v96,v97,v98,v99,v100,v101,v102,v103,v104,v105,v106,v107,v108,v109,v110,v111,v112,v113,v114,v115,v116,v117,v118,v119,v120,v121,v122,v123,v124,v125,v126,v127,v128,v129,v130,v131,v132,v133,v134,v135,v136,v137,v138,v139,v140,v141,v142,v143,v144,v145,v146,v147,v148,v149,v150,v151,v152,v153,v154,v155,v156,v157,v158,v159,v160,v161,v162,v163,v164,v165,v166,v167,v168,v169,v170,v171,v172,v173,v174,v175,v176,v177,v178,v179,v180,v181,v182,v183,v184,v185,v186,v187,v188,v189,v190,v191,v192,v193,v194,v195,v196,v197,v198,v199,v200,v201,v202,v203,v204,v205,v206,v207,v208,v209,v210,v211,v212,v213,v214,v215,v216,v217,v218,v219,v220,v221,v222,v223,v224,v225,v226,v227,v228,v229,v230,v231,v232,v233,v234,v235,v236,v237,v238,v239,v240,v241,v242,v243,v244,v245,v246], []⟩ W := by
  have HS := Lib.hid hst
  have HR0 := Lib.hid R0
  have HR1 := Lib.hid R1
  have HH := Lib.hid hh
  have HP : Hid (W.drew.heap[pb]? = some (.cells (patN p) 26 (0, 0))) := Lib.hid hp
  have HN := Lib.hid (And.intro hhl (And.intro hrh (And.intro hfh hph)))
  clear hst R0 R1 hh hp hhl hrh hfh hph
  rw [show Hf 19 = .seq (stmtOf 19 hfBody) (.seq (stmtOf 20 hfBody) (Hf 21)) from by kernel_rfl]
  have hz19 : stmtOf 19 hfBody = stmtOf 19 hfBody := rfl
  conv at hz19 => rhs; whnf
  rw [hz19]; clear hz19
  have hz20 : stmtOf 20 hfBody = stmtOf 20 hfBody := rfl
  conv at hz20 => rhs; whnf
  rw [hz20]; clear hz20
  rw [show Hf 21 = Code.ret from by kernel_rfl]
  go_wp2
  refine wp_region_held_drew (S := fun w' => w'.rangeAt pb 0 (patN p).toList) (by kernel_rfl) (row_range HP.out) (fun hHeld => ?_)
  refine wpAnyH_take (i := 0) (oi := ?o0_1) (v := .slice A0 n0 c0) ?h0_1 (by kernel_rfl) (by kernel_rfl) (by kernel_rfl) ?q0_1 ?y0_1 hHeld ?r0_1
  case h0_1 => exact rfl
  case q0_1 => exact fun _ _ _ h => h
  case y0_1 => exact Or.inl ⟨by rfl, fun w hw => by first | rfl | (go_simp; done) | (go_simp; kernel_rfl)⟩
  try simp only [Act.put, List.getElem_toArray, List.getElem_cons_succ, List.getElem_cons_zero, List.setIfInBounds_toArray, List.set_cons_zero, List.set_cons_succ]
  refine wpAnyH_take (i := 1) (oi := ?o1_2) (v := .slice A1 n1 c1) ?h1_2 (by kernel_rfl) (by kernel_rfl) (by kernel_rfl) ?q1_2 ?y1_2 hHeld ?r1_2
  case h1_2 => exact rfl
  case q1_2 => exact fun _ _ _ h => h
  case y1_2 => exact Or.inl ⟨by rfl, fun w hw => by first | rfl | (go_simp; done) | (go_simp; kernel_rfl)⟩
  try simp only [Act.put, List.getElem_toArray, List.getElem_cons_succ, List.getElem_cons_zero, List.setIfInBounds_toArray, List.set_cons_zero, List.set_cons_succ]
  refine wpAnyH_take (i := 2) (oi := ?o2_3) (v := .agg (patN p)) ?h2_3 (by kernel_rfl) (by kernel_rfl) (by kernel_rfl) ?q2_3 ?y2_3 hHeld ?r2_3
  case h2_3 => exact rfl
  case q2_3 => exact fun _ _ _ h => h
  case y2_3 => exact yields_row (by rfl) _ _ rfl _ rfl (patN p) _ (fun _ h => h) Try.underlying26 rfl (by kernel_rfl)
  try simp only [Act.put, List.getElem_toArray, List.getElem_cons_succ, List.getElem_cons_zero, List.setIfInBounds_toArray, List.set_cons_zero, List.set_cons_succ]
  refine wpAnyH_take (i := 3) (oi := ?o3_4) (v := .string s) ?h3_4 (by kernel_rfl) (by kernel_rfl) (by kernel_rfl) ?q3_4 ?y3_4 hHeld ?r3_4
  case h3_4 => exact rfl
  case q3_4 => exact fun _ _ _ h => h
  case y3_4 => exact Or.inl ⟨by rfl, fun w hw => by first | rfl | (go_simp; done) | (go_simp; kernel_rfl)⟩
  try simp only [Act.put, List.getElem_toArray, List.getElem_cons_succ, List.getElem_cons_zero, List.setIfInBounds_toArray, List.set_cons_zero, List.set_cons_succ]
  refine wpAnyH_take (i := 4) (oi := ?o4_5) (v := .int .i64 (s.size : Int)) ?h4_5 (by kernel_rfl) (by kernel_rfl) (by kernel_rfl) ?q4_5 ?y4_5 hHeld ?r4_5
  case h4_5 => exact rfl
  case q4_5 => exact fun _ _ _ h => h
  case y4_5 => exact Or.inl ⟨by rfl, fun w hw => by first | rfl | (go_simp; done) | (go_simp; kernel_rfl)⟩
  try simp only [Act.put, List.getElem_toArray, List.getElem_cons_succ, List.getElem_cons_zero, List.setIfInBounds_toArray, List.set_cons_zero, List.set_cons_succ]
  refine wpAnyH_take (i := 5) (oi := ?o5_6) (v := .pointer (some ⟨hb, 0, none⟩)) ?h5_6 (by kernel_rfl) (by kernel_rfl) (by kernel_rfl) ?q5_6 ?y5_6 hHeld ?r5_6
  case h5_6 => exact rfl
  case q5_6 => exact fun _ _ _ h => h
  case y5_6 => exact Or.inl ⟨by rfl, fun w hw => by first | rfl | (go_simp; done) | (go_simp; kernel_rfl)⟩
  try simp only [Act.put, List.getElem_toArray, List.getElem_cons_succ, List.getElem_cons_zero, List.setIfInBounds_toArray, List.set_cons_zero, List.set_cons_succ]
  refine wpAnyH_ready (rs := [6]) (by kernel_rfl) (by simp) ?_
  refine AllReadyH.cons (o := ?o6_7) ?h6_7 (fun K6 hK => ?s6_7) AllReadyH.nil
  case h6_7 => exact rfl
  rw [if_pos (by rfl)]
  refine wpK_store _ _ _ rfl hb 0 (.slice A0 n0 c0) #[.slice A0 n0 c0] rfl rfl rfl _ _ (show W.drew.heap[hb]? = _ from HH.out) (by kernel_rfl) (Nat.le_of_ble_eq_true (by kernel_rfl)) (all_one1 _ rfl) _ (set_h0 _ _ _ _ _ _ _) (fun W6 g p' => ?_)
  have HG6 := Lib.hid g
  have HQ6 := Lib.hid p'
  have HP6 := Lib.hid (p'.other HP.out (fun e => HN.out.2.2.2 e.symm))
  clear g p'
  refine hK.out _ _ (row_range HP6.out) (fun hHeld6 => ?_)
  clear hK K6
  try simp only [Act.put, List.getElem_toArray, List.getElem_cons_succ, List.getElem_cons_zero, List.setIfInBounds_toArray, List.set_cons_zero, List.set_cons_succ]
  refine wpAnyH_take (i := 7) (oi := ?o7_8) (v := .pointer (some ⟨hb, 1, none⟩)) ?h7_8 (by kernel_rfl) (by kernel_rfl) (by kernel_rfl) ?q7_8 ?y7_8 hHeld6 ?r7_8
  case h7_8 => exact rfl
  case q7_8 => exact fun _ _ _ h => h
  case y7_8 => exact Or.inl ⟨by rfl, fun w hw => by first | rfl | (go_simp; done) | (go_simp; kernel_rfl)⟩
  try simp only [Act.put, List.getElem_toArray, List.getElem_cons_succ, List.getElem_cons_zero, List.setIfInBounds_toArray, List.set_cons_zero, List.set_cons_succ]
  refine wpAnyH_ready (rs := [8]) (by kernel_rfl) (by simp) ?_
  refine AllReadyH.cons (o := ?o8_9) ?h8_9 (fun K8 hK => ?s8_9) AllReadyH.nil
  case h8_9 => exact rfl
  rw [if_pos (by rfl)]
  refine wpK_store _ _ _ rfl hb 1 (.slice A1 n1 c1) #[.slice A1 n1 c1] rfl rfl rfl _ _ HG6.out (by kernel_rfl) (Nat.le_of_ble_eq_true (by kernel_rfl)) (all_one1 _ rfl) _ (set_h1 _ _ _ _ _ _ _) (fun W8 g p' => ?_)
  have HG8 := Lib.hid g
  have HQ8 := Lib.hid p'
  have HP8 := Lib.hid (p'.other HP6.out (fun e => HN.out.2.2.2 e.symm))
  clear g p'
  refine hK.out _ _ (row_range HP8.out) (fun hHeld8 => ?_)
  clear hK K8
  try simp only [Act.put, List.getElem_toArray, List.getElem_cons_succ, List.getElem_cons_zero, List.setIfInBounds_toArray, List.set_cons_zero, List.set_cons_succ]
  refine wpAnyH_take (i := 9) (oi := ?o9_10) (v := .pointer (some ⟨hb, 2, none⟩)) ?h9_10 (by kernel_rfl) (by kernel_rfl) (by kernel_rfl) ?q9_10 ?y9_10 hHeld8 ?r9_10
  case h9_10 => exact rfl
  case q9_10 => exact fun _ _ _ h => h
  case y9_10 => exact Or.inl ⟨by rfl, fun w hw => by first | rfl | (go_simp; done) | (go_simp; kernel_rfl)⟩
  try simp only [Act.put, List.getElem_toArray, List.getElem_cons_succ, List.getElem_cons_zero, List.setIfInBounds_toArray, List.set_cons_zero, List.set_cons_succ]
  refine wpAnyH_ready (rs := [10]) (by kernel_rfl) (by simp) ?_
  refine AllReadyH.cons (o := ?o10_11) ?h10_11 (fun K10 hK => ?s10_11) AllReadyH.nil
  case h10_11 => exact rfl
  rw [if_pos (by rfl)]
  refine wpK_store _ _ _ rfl hb 2 (.agg (patN p)) (patN p) rfl rfl rfl _ _ HG8.out (by kernel_rfl) (Nat.le_of_ble_eq_true (by kernel_rfl)) (patN_one p) _ (set_pat _ _ _ _ _ _ _) (fun W10 g p' => ?_)
  have HG10 := Lib.hid g
  have HQ10 := Lib.hid p'
  have HP10 := Lib.hid (p'.other HP8.out (fun e => HN.out.2.2.2 e.symm))
  clear g p'
  refine hK.out _ _ (row_range HP10.out) (fun hHeld10 => ?_)
  clear hK K10
  try simp only [Act.put, List.getElem_toArray, List.getElem_cons_succ, List.getElem_cons_zero, List.setIfInBounds_toArray, List.set_cons_zero, List.set_cons_succ]
  refine wpAnyH_take (i := 11) (oi := ?o11_12) (v := .pointer (some ⟨hb, 24, none⟩)) ?h11_12 (by kernel_rfl) (by kernel_rfl) (by kernel_rfl) ?q11_12 ?y11_12 hHeld10 ?r11_12
  case h11_12 => exact rfl
  case q11_12 => exact fun _ _ _ h => h
  case y11_12 => exact Or.inl ⟨by rfl, fun w hw => by first | rfl | (go_simp; done) | (go_simp; kernel_rfl)⟩
  try simp only [Act.put, List.getElem_toArray, List.getElem_cons_succ, List.getElem_cons_zero, List.setIfInBounds_toArray, List.set_cons_zero, List.set_cons_succ]
  refine wpAnyH_ready (rs := [12]) (by kernel_rfl) (by simp) ?_
  refine AllReadyH.cons (o := ?o12_13) ?h12_13 (fun K12 hK => ?s12_13) AllReadyH.nil
  case h12_13 => exact rfl
  rw [if_pos (by rfl)]
  refine wpK_store _ _ _ rfl hb 24 (.int .i64 (s.size : Int)) #[.int .i64 (s.size : Int)] rfl rfl rfl _ _ HG10.out (by kernel_rfl) (Nat.le_of_ble_eq_true (by kernel_rfl)) (all_one1 _ rfl) _ (set_h24 _ _ _ _ _ _ _) (fun W12 g p' => ?_)
  have HG12 := Lib.hid g
  have HQ12 := Lib.hid p'
  have HP12 := Lib.hid (p'.other HP10.out (fun e => HN.out.2.2.2 e.symm))
  clear g p'
  refine hK.out _ _ (row_range HP12.out) (fun hHeld12 => ?_)
  clear hK K12
  try simp only [Act.put, List.getElem_toArray, List.getElem_cons_succ, List.getElem_cons_zero, List.setIfInBounds_toArray, List.set_cons_zero, List.set_cons_succ]
  refine wpAnyH_done (by kernel_rfl) ?_ _
  have HS1 := Lib.hid (((((HS.out.step (Below.refl _ _).drew).store HQ6.out HN.out.1 HN.out.2.1 HN.out.2.2.1).store HQ8.out HN.out.1 HN.out.2.1 HN.out.2.2.1).store HQ10.out HN.out.1 HN.out.2.1 HN.out.2.2.1).store HQ12.out HN.out.1 HN.out.2.1 HN.out.2.2.1)
  have HSZ : Hid (W12.heap.size = W.heap.size) := Lib.hid (HQ12.out.size.trans (HQ10.out.size.trans (HQ8.out.size.trans HQ6.out.size)))
  have HO : Hid (∀ k o, W.heap[k]? = some o → k ≠ hb → W12.heap[k]? = some o) := Lib.hid fun k o hk hn => HQ12.out.other (HQ10.out.other (HQ8.out.other (HQ6.out.other (show W.drew.heap[k]? = _ from hk) hn) hn) hn) hn
  go_wp2_with (first
    | ((with_reducible refine gate_dst (N := 245) rfl ?_); refine wpList_load_mid rfl 53 (.tmp 10) rfl hb 0 rfl (halfC (.slice A0 n0 c0) (.slice A1 n1 c1) p at_ pad (s.size : Int)).toList _ (row_range HG12.out) Try.underlying53 rfl (by kernel_rfl) ?_)
    | ((with_reducible refine gate_store (t := 53) (p := 6) rfl ?_); refine store_any_event rfl rfl rfl rb 0 (.agg (halfC (.slice A0 n0 c0) (.slice A1 n1 c1) p at_ pad (s.size : Int))) (halfC (.slice A0 n0 c0) (.slice A1 n1 c1) p at_ pad (s.size : Int)) rfl rfl rfl _ _ HS1.out.res (by kernel_rfl) (Nat.le_of_ble_eq_true (by kernel_rfl)) (halfC_one _ _ _ _ _ _ rfl rfl) _ (set_half0 _ _ _ _ _ _) ?_; intro W13 g p'; have HG13 := Lib.hid g; have HQ13 := Lib.hid p'; have HF13 := Lib.hid (p'.other HS1.out.flt HS1.out.ne.symm); clear g p')
    | ((with_reducible refine gate_store (t := 29) (p := 7) rfl ?_); refine store_any_event rfl rfl rfl fb 0 (.agg #[.int .i64 0, .int .i64 0]) #[.int .i64 0, .int .i64 0] rfl rfl rfl _ _ HF13.out (by kernel_rfl) (Nat.le_of_ble_eq_true (by kernel_rfl)) (all_one2 _ _ rfl rfl) _ (set_flt _ _ _ _) ?_; intro W14 g p'; have HG14 := Lib.hid g; have HQ14 := Lib.hid p'; have HR14 := Lib.hid (p'.other HG13.out HS1.out.ne); clear g p'))
  refine bodyPost_ret (results_cells2 rfl _ _ rb fb 53 29 (halfC (.slice A0 n0 c0) (.slice A1 n1 c1) p at_ pad (s.size : Int)) #[.int .i64 0, .int .i64 0] (0, 0) (0, 0) _ _ rfl HR14.out Try.underlying53 rfl (by kernel_rfl) rfl HG14.out Try.underlying29 rfl (by kernel_rfl)) rfl ?_
  have hsz : W14.heap.size = W.heap.size := HQ14.out.size.trans (HQ13.out.size.trans HSZ.out)
  have hoth : ∀ k o, W.heap[k]? = some o → k ≠ rb → k ≠ fb → k ≠ hb → W14.heap[k]? = some o := fun k o hk n1 n2 n3 => HQ14.out.other (HQ13.out.other (HO.out k o hk n3) n1) n2
  exact ⟨_, 0, 0, rfl, halfC_size _ _ _ _ _ _, halfC_one _ _ _ _ _ _ rfl rfl, HQ14.out.below (HQ13.out.below HS1.out.below HS1.out.rlo) HS1.out.flo, rfl, _, _, rfl, HR0.out _ hsz hoth, HR1.out _ hsz hoth⟩
open Go.RowKit Go.Proofs.Ytkgdpgoianimjaa.Utf Go.Proofs.YtkgdpgoianimjaaW.PrintWords Go.Proofs.YtkgdpgoianimjaaW.PrintLast Go.Proofs.YtkgdpgoianimjaaW.PrintMore
set_option linter.unusedVariables false
set_option linter.unusedSimpArgs false
theorem R_frame {W : World} {base : Nat} {v : Value} {xs : List S57} (h : Kd.R k57 57 W base (fun _ => True) v xs) {rb fb hb : Nat} {c1 c2 c3 : Array Value}
    (h1 : W.heap[rb]? = some (.cells c1 53 (0, 0))) (h2 : W.heap[fb]? = some (.cells c2 29 (0, 0))) (h3 : W.heap[hb]? = some (.cells c3 53 (0, 0))) :
    ∀ W', W'.heap.size = W.heap.size → (∀ k o, W.heap[k]? = some o → k ≠ rb → k ≠ fb → k ≠ hb → W'.heap[k]? = some o) → Kd.R k57 57 W' base (fun _ => True) v xs := fun W' _ hk => by
  have g := Kd.R_bound (Kd.R_types (Kd.R_types (Kd.R_types h h1 (by decide)) h2 (by decide)) h3 (by decide))
  refine Kd.R_mono (Kd.R_move g (fun k ho => ?_)) (fun _ _ => trivial)
  obtain ⟨⟨⟨⟨_, n1⟩, n2⟩, n3⟩, _, _, q, _, cells, hc⟩ := ho
  rw [hc]
  exact hk k _ hc n1 n2 n3
set_option maxHeartbeats 8000000 in
set_option maxRecDepth 1000000 in
theorem hf18 (w W : World) (rb fb hb pb vb : Nat) (s : ByteArray) (A0 A1 : Option Addr) (n0 c0 n1 c1 : Nat) (at_ pad E a : Int) (p : N.NP) (x y : List S57) (r : Option HalfR) (hr : r = if E = 0 then some ⟨x, y, p, at_, pad, s.size⟩ else none) (hst : Hst w W rb fb)
    (hh : W.heap[hb]? = some (.cells (halfC (.slice none 0 0) (.slice none 0 0) N.np0 at_ pad 0) 53 (0, 0))) (hhl : w.heap.size ≤ hb) (hrh : rb ≠ hb) (hfh : fb ≠ hb)
    (hp : W.heap[pb]? = some (.cells (patN p) 26 (0, 0))) (hph : hb ≠ pb)
    (hv : W.heap[vb]? = some (.cells #[.int .i64 E, .int .i64 a] 29 (0, 0))) (hvr : vb ≠ rb) (hvf : vb ≠ fb)
    (R0 : Kd.R k57 57 W w.heap.size (fun _ => True) (.slice A0 n0 c0) x)
    (R1 : Kd.R k57 57 W w.heap.size (fun _ => True) (.slice A1 n1 c1) y) :
    Code.wp Try.prog (Hf 18) (bodyPost Try.prog Try.f17 (HPost r w)) ⟨#[v0,v1,v2,v3,v4,v5, .pointer (some ⟨rb, 0, none⟩), .pointer (some ⟨fb, 0, none⟩),v8,v9, .pointer (some ⟨hb, 0, none⟩),v11,v12,v13,v14,v15, .string s,v17, .slice A0 n0 c0, .pointer (some ⟨vb, 0, none⟩), .pointer (some ⟨pb, 0, none⟩),v21, .slice A1 n1 c1,v23,v24,v25,v26,v27,v28,v29,v30,v31,v32,v33,v34,v35,v36,v37,v38,v39,v40,v41,v42,v43,v44,v45,v46,v47,v48,v49,v50,v51,v52,v53,v54,v55,v56,v57,v58,v59,v60,v61,v62,v63,v64,v65,v66,v67,v68,v69,v70,v71,v72,v73,v74,v75,v76,v77,v78,v79,v80,v81,v82,v83,v84,v85,v86,v87,v88,v89,v90,v91,v92,v93,v94,v95,v96,v97,v98,v99,v100,v101,v102,v103,v104,v105,v106,v107,v108,v109,v110,v111,v112,v113,v114,v115,v116,v117,v118,v119,v120,v121,v122,v123,v124,v125,v126,v127,v128,v129,v130,v131,v132,v133,v134,v135,v136,v137,v138,v139,v140,v141,v142,v143,v144,v145,v146,v147,v148,v149,v150,v151,v152,v153,v154,v155,v156,v157,v158,v159,v160,v161,v162,v163,v164,v165,v166,v167,v168,v169,v170,v171,v172,v173,v174,v175,v176,v177,v178,v179,v180,v181,v182,v183,v184,v185,v186,v187,v188,v189,v190,v191,v192,v193,v194,v195,v196,v197,v198,v199,v200,v201,v202,v203,v204,v205,v206,v207,v208,v209,v210,v211,v212,v213,v214,v215,v216,v217,v218,v219,v220,v221,v222,v223,v224,v225,v226,v227,v228,v229,v230,v231,v232,v233,v234,v235,v236,v237,v238,v239,v240,v241,v242,v243,v244,v245,v246], []⟩ W := by
  have HS := Lib.hid hst
  have HR0 := Lib.hid R0
  have HR1 := Lib.hid R1
  have HH := Lib.hid hh
  have HP := Lib.hid hp
  have HV := Lib.hid hv
  have HN := Lib.hid (And.intro hhl (And.intro hrh (And.intro hfh (And.intro hph (And.intro hvr hvf)))))
  have e0 := (blk_cell hv 0).trans rfl
  clear hst R0 R1 hh hp hhl hrh hfh hph hv hvr hvf
  by_cases hE : E = 0
  · have t1 : (E != 0) = false := by rw [hE]; rfl
    rw [if_pos hE] at hr
    subst hr
    clear hE
    rw [show Hf 18 = .seq (stmtOf 18 hfBody) (Hf 19) from by kernel_rfl]
    have hz18 : stmtOf 18 hfBody = stmtOf 18 hfBody := rfl
    conv at hz18 => rhs; whnf
    rw [hz18]; clear hz18
    go_wp2
    exact hf19 w W rb fb hb pb s A0 A1 n0 c0 n1 c1 at_ pad p x y HS.out HH.out HN.out.1 HN.out.2.1 HN.out.2.2.1 HP.out HN.out.2.2.2.1 (R_frame HR0.out HS.out.res HS.out.flt HH.out) (R_frame HR1.out HS.out.res HS.out.flt HH.out)
  · have t1 : (E != 0) = true := bne_iff_ne.2 hE
    rw [if_neg hE] at hr
    subst hr
    have HE := Lib.hid hE
    clear hE
    rw [show Hf 18 = .seq (stmtOf 18 hfBody) (Hf 19) from by kernel_rfl]
    have hz18 : stmtOf 18 hfBody = stmtOf 18 hfBody := rfl
    conv at hz18 => rhs; whnf
    rw [hz18]; clear hz18
    go_wp2
    have HD : Hid (W.drew.heap[vb]? = some (.cells #[.int .i64 E, .int .i64 a] 29 (0, 0))) := Lib.hid HV.out
    refine wp_region_held_drew (S := (fun w' => w'.rangeAt vb 0 (#[.int .i64 E, .int .i64 a] : Array Value).toList)) (by kernel_rfl) (row_range HD.out) (fun hHeld => ?_)
    refine wpAnyH_take (i := 0) (oi := ?o0_1) (v := .agg half0) ?h0_1 (by kernel_rfl) (by kernel_rfl) (by kernel_rfl) ?q0_1 ?y0_1 hHeld ?r0_1
    case h0_1 => exact rfl
    case q0_1 => exact fun _ _ _ h => h
    case y0_1 => exact Or.inl ⟨by rfl, fun w hw => by first | rfl | (go_simp; done) | (go_simp; kernel_rfl)⟩
    try simp only [Act.put, List.getElem_toArray, List.getElem_cons_succ, List.getElem_cons_zero, List.setIfInBounds_toArray, List.set_cons_zero, List.set_cons_succ]
    refine wpAnyH_take (i := 1) (oi := ?o1_2) (v := .agg #[.int .i64 E, .int .i64 a]) ?h1_2 (by kernel_rfl) (by kernel_rfl) (by kernel_rfl) ?q1_2 ?y1_2 hHeld ?r1_2
    case h1_2 => exact rfl
    case q1_2 => exact fun _ _ _ h => h
    case y1_2 => exact yields_row (by rfl) _ _ rfl _ rfl #[.int .i64 E, .int .i64 a] _ (fun _ h => h) Try.underlying29 rfl (by kernel_rfl)
    try simp only [Act.put, List.getElem_toArray, List.getElem_cons_succ, List.getElem_cons_zero, List.setIfInBounds_toArray, List.set_cons_zero, List.set_cons_succ]
    refine wpAnyH_ready (rs := [2]) (by kernel_rfl) (by simp) ?_
    refine AllReadyH.cons (o := ?o2_3) ?h2_3 (fun K2 hK => ?s2_3) AllReadyH.nil
    case h2_3 => exact rfl
    rw [if_pos (by rfl)]
    refine wpK_store _ _ _ rfl rb 0 (.agg half0) half0 rfl rfl rfl _ _ (show W.drew.heap[rb]? = _ from HS.out.res) (by kernel_rfl) (Nat.le_of_ble_eq_true (by kernel_rfl)) half0_one _ (set_half0 _ _ _ _ _ _) (fun W2 g p' => ?_)
    have HG2 := Lib.hid g
    have HQ2 := Lib.hid p'
    have HD2 := Lib.hid (p'.other HD.out HN.out.2.2.2.2.1)
    have HF2 := Lib.hid (p'.other (show W.drew.heap[fb]? = _ from HS.out.flt) HS.out.ne.symm)
    clear g p'
    refine hK.out _ _ (row_range HD2.out) (fun hHeld2 => ?_)
    clear hK K2
    try simp only [Act.put, List.getElem_toArray, List.getElem_cons_succ, List.getElem_cons_zero, List.setIfInBounds_toArray, List.set_cons_zero, List.set_cons_succ]
    refine wpAnyH_ready (rs := [3]) (by kernel_rfl) (by simp) ?_
    refine AllReadyH.cons (o := ?o3_4) ?h3_4 (fun K3 hK => ?s3_4) AllReadyH.nil
    case h3_4 => exact rfl
    rw [if_pos (by rfl)]
    refine wpK_store _ _ _ rfl fb 0 (.agg #[.int .i64 E, .int .i64 a]) #[.int .i64 E, .int .i64 a] rfl rfl rfl _ _ HF2.out (by kernel_rfl) (Nat.le_of_ble_eq_true (by kernel_rfl)) (all_one2 _ _ rfl rfl) _ (set_flt _ _ _ _) (fun W3 g p' => ?_)
    have HG3 := Lib.hid g
    have HQ3 := Lib.hid p'
    have HR3 := Lib.hid (p'.other HG2.out HS.out.ne)
    have HD3 := Lib.hid (p'.other HD2.out HN.out.2.2.2.2.2)
    clear g p'
    refine hK.out _ _ (row_range HD3.out) (fun hHeld3 => ?_)
    clear hK K3
    try simp only [Act.put, List.getElem_toArray, List.getElem_cons_succ, List.getElem_cons_zero, List.setIfInBounds_toArray, List.set_cons_zero, List.set_cons_succ]
    refine wpAnyH_done (by kernel_rfl) ?_ _
    go_wp2
    refine bodyPost_ret (results_cells2 rfl _ _ rb fb 53 29 half0 #[.int .i64 E, .int .i64 a] (0, 0) (0, 0) _ _ rfl HR3.out Try.underlying53 rfl (by kernel_rfl) rfl HG3.out Try.underlying29 rfl (by kernel_rfl)) rfl ?_
    exact half_out (W := W) (rb := rb) (fb := fb) E a HE.out (HQ3.out.below (HQ2.out.below HS.out.below.drew HS.out.rlo) HS.out.flo) _ rfl
open Go.RowKit Go.Proofs.Ytkgdpgoianimjaa.Utf Go.Proofs.YtkgdpgoianimjaaW.PrintWords Go.Proofs.YtkgdpgoianimjaaW.PrintLast Go.Proofs.YtkgdpgoianimjaaW.PrintMore
set_option linter.unusedVariables false
set_option linter.unusedSimpArgs false
theorem R_put {α : Type} {d : Kd α} {e base : Nat} {W W' : World} {v : Value} {xs : List α} (h : d.R e W base (fun _ => True) v xs) {g t : Nat} {c : Array Value} (hg : W.heap[g]? = some (.cells c t (0, 0))) (ht : ∀ q, q ∈ e :: d.E → q ≠ t) (hp : PutAt g W W') : d.R e W' base (fun _ => True) v xs := by
  have hb := Kd.R_bound (Kd.R_types h hg ht)
  refine Kd.R_mono (Kd.R_move hb (fun k ho => ?_)) (fun _ _ => trivial)
  obtain ⟨⟨_, n1⟩, _, _, q, _, cells, hc⟩ := ho
  rw [hc]
  exact hp.other hc n1
theorem items_f (b : List S48) (h : b.length ≤ 1000000000) : figureheadref13_Items.f b = some ((itemsGo b []).1, (itemsGo b []).2.1, (itemsGo b []).2.2) := by
  unfold figureheadref13_Items.f
  rw [if_pos h]
set_option maxHeartbeats 8000000 in
set_option maxRecDepth 1000000 in
theorem hf17 (w W : World) (rb fb hb pb vb : Nat) (s : ByteArray) (A0 AB : Option Addr) (n0 c0 cb : Nat) (at_ pad E0 a0 : Int) (p : N.NP) (x : List S57) (b : List S48) (hst : Hst w W rb fb)
    (hh : W.heap[hb]? = some (.cells (halfC (.slice none 0 0) (.slice none 0 0) N.np0 at_ pad 0) 53 (0, 0))) (hhl : w.heap.size ≤ hb) (hrh : rb ≠ hb) (hfh : fb ≠ hb)
    (hp : W.heap[pb]? = some (.cells (patN p) 26 (0, 0))) (hph : hb ≠ pb)
    (hv : W.heap[vb]? = some (.cells #[.int .i64 E0, .int .i64 a0] 29 (0, 0))) (hvl : w.heap.size ≤ vb) (hvr : vb ≠ rb) (hvf : vb ≠ fb) (hvh : vb ≠ hb) (hvp : vb ≠ pb)
    (R0 : Kd.R k57 57 W w.heap.size (fun _ => True) (.slice A0 n0 c0) x)
    (RB : Kd.C k48 W AB b.length b) (hbc : b.length ≤ cb) (hbl : b.length ≤ 1000000000) :
    Code.wp Try.prog (Hf 17) (bodyPost Try.prog Try.f17 (HPost (h17 (at_, pad) s b x p) w)) ⟨#[v0,v1,v2,v3,v4,v5, .pointer (some ⟨rb, 0, none⟩), .pointer (some ⟨fb, 0, none⟩),v8,v9, .pointer (some ⟨hb, 0, none⟩),v11,v12,v13,v14, .slice AB b.length cb, .string s,v17, .slice A0 n0 c0, .pointer (some ⟨vb, 0, none⟩), .pointer (some ⟨pb, 0, none⟩),v21,v22,v23,v24,v25,v26,v27,v28,v29,v30,v31,v32,v33,v34,v35,v36,v37,v38,v39,v40,v41,v42,v43,v44,v45,v46,v47,v48,v49,v50,v51,v52,v53,v54,v55,v56,v57,v58,v59,v60,v61,v62,v63,v64,v65,v66,v67,v68,v69,v70,v71,v72,v73,v74,v75,v76,v77,v78,v79,v80,v81,v82,v83,v84,v85,v86,v87,v88,v89,v90,v91,v92,v93,v94,v95,v96,v97,v98,v99,v100,v101,v102,v103,v104,v105,v106,v107,v108,v109,v110,v111,v112,v113,v114,v115,v116,v117,v118,v119,v120,v121,v122,v123,v124,v125,v126,v127,v128,v129,v130,v131,v132,v133,v134,v135,v136,v137,v138,v139,v140,v141,v142,v143,v144,v145,v146,v147,v148,v149,v150,v151,v152,v153,v154,v155,v156,v157,v158,v159,v160,v161,v162,v163,v164,v165,v166,v167,v168,v169,v170,v171,v172,v173,v174,v175,v176,v177,v178,v179,v180,v181,v182,v183,v184,v185,v186,v187,v188,v189,v190,v191,v192,v193,v194,v195,v196,v197,v198,v199,v200,v201,v202,v203,v204,v205,v206,v207,v208,v209,v210,v211,v212,v213,v214,v215,v216,v217,v218,v219,v220,v221,v222,v223,v224,v225,v226,v227,v228,v229,v230,v231,v232,v233,v234,v235,v236,v237,v238,v239,v240,v241,v242,v243,v244,v245,v246], []⟩ W := by
  have HS := Lib.hid hst
  have HR0 := Lib.hid R0
  have HRB := Lib.hid RB
  have HBC := Lib.hid hbc
  have HI := Lib.hid (items_f b hbl)
  have HH := Lib.hid hh
  have HP := Lib.hid hp
  have HV := Lib.hid hv
  have HN := Lib.hid (And.intro hhl (And.intro hrh (And.intro hfh (And.intro hph (And.intro hvr (And.intro hvf (And.intro hvl (And.intro hvh hvp))))))))
  clear hst R0 RB hbc hbl hh hp hhl hrh hfh hph hv hvr hvf hvl hvh hvp
  rw [show Hf 17 = .seq (stmtOf 17 hfBody) (Hf 18) from by kernel_rfl]
  have hz17 : stmtOf 17 hfBody = stmtOf 17 hfBody := rfl
  conv at hz17 => rhs; whnf
  rw [hz17]; clear hz17
  go_wp2_with (first
    | (go_at_call 37; (with_reducible refine (figureheadref13_Items.calls AB cb b _ _ _ _ HRB.out HBC.out HI.out).mono ?_); rintro e W1 ⟨v22, rfl, hRy, b1⟩; have HRy := Lib.hid hRy; have HB1 := Lib.hid b1; clear hRy b1)
    | ((with_reducible refine gate_store (t := 29) (p := 19) rfl ?_); refine store_any_event rfl rfl rfl vb 0 (.agg #[.int .i64 (itemsGo b []).2.1, .int .i64 (itemsGo b []).2.2]) #[.int .i64 (itemsGo b []).2.1, .int .i64 (itemsGo b []).2.2] rfl rfl rfl _ _ (heap_keeps HB1.out HV.out) (by kernel_rfl) (Nat.le_of_ble_eq_true (by kernel_rfl)) (all_one2 _ _ rfl rfl) _ (set_flt _ _ _ _) ?_; intro W2 g p'; have HG2 := Lib.hid g; have HQ2 := Lib.hid p'; clear g p'))
  obtain ⟨A1, c1, rfl⟩ : ∃ A1 c1, v22 = .slice A1 (itemsGo b []).1.length c1 := by
    obtain ⟨A, c, h⟩ := Kd.R_slice HRy.out
    exact ⟨A, c, h⟩
  have hs1 := HS.out.step HB1.out
  have hwW : w.heap.size ≤ W.heap.size := HS.out.below.size
  exact hf18 w W2 rb fb hb pb vb s A0 A1 n0 c0 _ c1 at_ pad (itemsGo b []).2.1 (itemsGo b []).2.2 p x (itemsGo b []).1 _ rfl (hs1.store HQ2.out HN.out.2.2.2.2.2.2.1 HN.out.2.2.2.2.1.symm HN.out.2.2.2.2.2.1.symm)
    (HQ2.out.other (heap_keeps HB1.out HH.out) HN.out.2.2.2.2.2.2.2.1.symm) HN.out.1 HN.out.2.1 HN.out.2.2.1 (HQ2.out.other (heap_keeps HB1.out HP.out) HN.out.2.2.2.2.2.2.2.2.symm) HN.out.2.2.2.1 HG2.out HN.out.2.2.2.2.1 HN.out.2.2.2.2.2.1
    (R_put (Kd.R_below HR0.out HB1.out) (heap_keeps HB1.out HV.out) (by decide) HQ2.out) (R_put (Kd.R_lower HRy.out hwW) (heap_keeps HB1.out HV.out) (by decide) HQ2.out)
open Go.RowKit Go.Proofs.Ytkgdpgoianimjaa.Utf Go.Proofs.YtkgdpgoianimjaaW.PrintWords Go.Proofs.YtkgdpgoianimjaaW.PrintLast Go.Proofs.YtkgdpgoianimjaaW.PrintMore
set_option linter.unusedVariables false
set_option linter.unusedSimpArgs false
theorem set_pat0 (p : N.NP) : setAll (patN N.np0) 0 (patN p).toList = patN p := by kernel_rfl
set_option maxHeartbeats 8000000 in
set_option maxRecDepth 1000000 in
theorem hf16 (w W : World) (rb fb hb pb vb n : Nat) (s : ByteArray) (A0 AB AE : Option Addr) (n0 c0 cb cE : Nat) (at_ pad E0 a0 E : Int) (p : N.NP) (x : List S57) (b : List S48) (l : List El) (r : Option HalfR) (hr : r = if E = 0 then h17 (at_, pad) s b x p else none) (hst : Hst w W rb fb)
    (hh : W.heap[hb]? = some (.cells (halfC (.slice none 0 0) (.slice none 0 0) N.np0 at_ pad 0) 53 (0, 0))) (hhl : w.heap.size ≤ hb) (hrh : rb ≠ hb) (hfh : fb ≠ hb)
    (hp : W.heap[pb]? = some (.cells (patN p) 26 (0, 0))) (hph : hb ≠ pb)
    (hv : W.heap[vb]? = some (.cells #[.int .i64 E0, .int .i64 a0] 29 (0, 0))) (hvl : w.heap.size ≤ vb) (hvr : vb ≠ rb) (hvf : vb ≠ fb) (hvh : vb ≠ hb) (hvp : vb ≠ pb)
    (R0 : Kd.R k57 57 W w.heap.size (fun _ => True) (.slice A0 n0 c0) x)
    (RB : Kd.C k48 W AB b.length b) (hbc : b.length ≤ cb) (hbl : b.length ≤ 1000000000) (hE : Kd.C kEl w AE l.length l) (hn : n < l.length) :
    Code.wp Try.prog (Hf 16) (bodyPost Try.prog Try.f17 (HPost r w)) ⟨#[.slice AE l.length cE,v1,v2,v3,v4,v5, .pointer (some ⟨rb, 0, none⟩), .pointer (some ⟨fb, 0, none⟩), .int .i64 (n : Int),v9, .pointer (some ⟨hb, 0, none⟩),v11,v12,v13,v14, .slice AB b.length cb, .string s,v17, .slice A0 n0 c0, .pointer (some ⟨vb, 0, none⟩), .pointer (some ⟨pb, 0, none⟩), .int .i64 E,v22,v23,v24,v25,v26,v27,v28,v29,v30,v31,v32,v33,v34,v35,v36,v37,v38,v39,v40,v41,v42,v43,v44,v45,v46,v47,v48,v49,v50,v51,v52,v53,v54,v55,v56,v57,v58,v59,v60,v61,v62,v63,v64,v65,v66,v67,v68,v69,v70,v71,v72,v73,v74,v75,v76,v77,v78,v79,v80,v81,v82,v83,v84,v85,v86,v87,v88,v89,v90,v91,v92,v93,v94,v95,v96,v97,v98,v99,v100,v101,v102,v103,v104,v105,v106,v107,v108,v109,v110,v111,v112,v113,v114,v115,v116,v117,v118,v119,v120,v121,v122,v123,v124,v125,v126,v127,v128,v129,v130,v131,v132,v133,v134,v135,v136,v137,v138,v139,v140,v141,v142,v143,v144,v145,v146,v147,v148,v149,v150,v151,v152,v153,v154,v155,v156,v157,v158,v159,v160,v161,v162,v163,v164,v165,v166,v167,v168,v169,v170,v171,v172,v173,v174,v175,v176,v177,v178,v179,v180,v181,v182,v183,v184,v185,v186,v187,v188,v189,v190,v191,v192,v193,v194,v195,v196,v197,v198,v199,v200,v201,v202,v203,v204,v205,v206,v207,v208,v209,v210,v211,v212,v213,v214,v215,v216,v217,v218,v219,v220,v221,v222,v223,v224,v225,v226,v227,v228,v229,v230,v231,v232,v233,v234,v235,v236,v237,v238,v239,v240,v241,v242,v243,v244,v245,v246], []⟩ W := by
  have HS := Lib.hid hst
  by_cases hE0 : E = 0
  · have t1 : (E != 0) = false := by rw [hE0]; rfl
    rw [if_pos hE0] at hr
    subst hr
    have HALL := Lib.hid (And.intro hh (And.intro hhl (And.intro hrh (And.intro hfh (And.intro hp (And.intro hph (And.intro hv (And.intro hvl (And.intro hvr (And.intro hvf (And.intro hvh (And.intro hvp (And.intro R0 (And.intro RB (And.intro hbc hbl)))))))))))))))
    clear hst hE0 hh hhl hrh hfh hp hph hv hvl hvr hvf hvh hvp R0 RB hbc hbl hE hn
    rw [show Hf 16 = .seq (stmtOf 16 hfBody) (Hf 17) from by kernel_rfl]
    have hz16 : stmtOf 16 hfBody = stmtOf 16 hfBody := rfl
    conv at hz16 => rhs; whnf
    rw [hz16]; clear hz16
    go_wp2
    obtain ⟨hh, hhl, hrh, hfh, hp, hph, hv, hvl, hvr, hvf, hvh, hvp, R0, RB, hbc, hbl⟩ := HALL.out
    exact hf17 w W rb fb hb pb vb s A0 AB n0 c0 cb at_ pad E0 a0 p x b HS.out hh hhl hrh hfh hp hph hv hvl hvr hvf hvh hvp R0 RB hbc hbl
  · have t1 : (E != 0) = true := bne_iff_ne.2 hE0
    rw [if_neg hE0] at hr
    subst hr
    have HE := Lib.hid hE0
    obtain ⟨bk, o, hA1, hbk, hcells⟩ := els_at hE (fun e => by rw [e] at hn; simp at hn)
    obtain ⟨z, hz⟩ : ∃ z, l[n]? = some z := ⟨_, List.getElem?_eq_getElem hn⟩
    have hia := fun W => idx_els l.length cE n bk o AE W hA1 hn
    obtain ⟨ta, hta⟩ : ∃ ta, ta = z.t.f2 := ⟨_, rfl⟩
    have hrl := hst.rlo
    have hfl := hst.flo
    have HNB : Hid (bk ≠ rb ∧ bk ≠ fb) := Lib.hid ⟨by omega, by omega⟩
    have HC : Hid (W.drew.cell? ⟨bk, o + n * 4 + 2, none⟩ = some (.int .i64 ta)) := Lib.hid (by
      have := (hst.below.cell (p := ⟨bk, o + n * 4 + 2, none⟩) hbk).trans (hcells n z hz).2.2.1
      rw [hta]; exact this)
    clear hst hE0 hh hhl hrh hfh hp hph hv hvl hvr hvf hvh hvp R0 RB hbc hbl hE hn hcells hz hA1 hta hrl hfl hbk
    rw [show Hf 16 = .seq (stmtOf 16 hfBody) (Hf 17) from by kernel_rfl]
    have hz16 : stmtOf 16 hfBody = stmtOf 16 hfBody := rfl
    conv at hz16 => rhs; whnf
    rw [hz16]; clear hz16
    go_wp2
    refine wp_region_held_drew (S := fun w' => w'.cell? ⟨bk, o + n * 4 + 2, none⟩ = some (.int .i64 ta)) (by kernel_rfl) HC.out (fun hHeld => ?_)
    refine wpAnyH_take (i := 0) (oi := ?o0_1) (v := .agg half0) ?h0_1 (by kernel_rfl) (by kernel_rfl) (by kernel_rfl) ?q0_1 ?y0_1 hHeld ?r0_1
    case h0_1 => exact rfl
    case q0_1 => exact fun _ _ _ h => h
    case y0_1 => exact Or.inl ⟨by rfl, fun w hw => by first | rfl | (go_simp; done) | (go_simp; kernel_rfl)⟩
    try simp only [Act.put, List.getElem_toArray, List.getElem_cons_succ, List.getElem_cons_zero, List.setIfInBounds_toArray, List.set_cons_zero, List.set_cons_succ]
    refine wpAnyH_take (i := 1) (oi := ?o1_2) (v := .int .i64 E) ?h1_2 (by kernel_rfl) (by kernel_rfl) (by kernel_rfl) ?q1_2 ?y1_2 hHeld ?r1_2
    case h1_2 => exact rfl
    case q1_2 => exact fun _ _ _ h => h
    case y1_2 => exact Or.inl ⟨by rfl, fun w hw => by first | rfl | (go_simp; done) | (go_simp; kernel_rfl)⟩
    try simp only [Act.put, List.getElem_toArray, List.getElem_cons_succ, List.getElem_cons_zero, List.setIfInBounds_toArray, List.set_cons_zero, List.set_cons_succ]
    refine wpAnyH_take (i := 2) (oi := ?o2_3) (v := .slice AE l.length cE) ?h2_3 (by kernel_rfl) (by kernel_rfl) (by kernel_rfl) ?q2_3 ?y2_3 hHeld ?r2_3
    case h2_3 => exact rfl
    case q2_3 => exact fun _ _ _ h => h
    case y2_3 => exact Or.inl ⟨by rfl, fun w hw => by first | rfl | (go_simp; done) | (go_simp; kernel_rfl)⟩
    try simp only [Act.put, List.getElem_toArray, List.getElem_cons_succ, List.getElem_cons_zero, List.setIfInBounds_toArray, List.set_cons_zero, List.set_cons_succ]
    refine wpAnyH_take (i := 3) (oi := ?o3_4) (v := .int .i64 (n : Int)) ?h3_4 (by kernel_rfl) (by kernel_rfl) (by kernel_rfl) ?q3_4 ?y3_4 hHeld ?r3_4
    case h3_4 => exact rfl
    case q3_4 => exact fun _ _ _ h => h
    case y3_4 => exact Or.inl ⟨by rfl, fun w hw => by first | rfl | (go_simp; done) | (go_simp; kernel_rfl)⟩
    try simp only [Act.put, List.getElem_toArray, List.getElem_cons_succ, List.getElem_cons_zero, List.setIfInBounds_toArray, List.set_cons_zero, List.set_cons_succ]
    refine wpAnyH_take (i := 4) (oi := ?o4_5) (v := .pointer (some ⟨bk, o + n * 4, none⟩)) ?h4_5 (by kernel_rfl) (by kernel_rfl) (by kernel_rfl) ?q4_5 ?y4_5 hHeld ?r4_5
    case h4_5 => exact rfl
    case q4_5 => exact fun _ _ _ h => h
    case y4_5 => exact Or.inl ⟨by rfl, fun w hw => by first | rfl | (go_simp; done) | (go_simp; kernel_rfl)⟩
    try simp only [Act.put, List.getElem_toArray, List.getElem_cons_succ, List.getElem_cons_zero, List.setIfInBounds_toArray, List.set_cons_zero, List.set_cons_succ]
    refine wpAnyH_take (i := 5) (oi := ?o5_6) (v := .pointer (some ⟨bk, o + n * 4, none⟩)) ?h5_6 (by kernel_rfl) (by kernel_rfl) (by kernel_rfl) ?q5_6 ?y5_6 hHeld ?r5_6
    case h5_6 => exact rfl
    case q5_6 => exact fun _ _ _ h => h
    case y5_6 => exact Or.inl ⟨by rfl, fun w hw => by first | rfl | (go_simp; done) | (go_simp; kernel_rfl)⟩
    try simp only [Act.put, List.getElem_toArray, List.getElem_cons_succ, List.getElem_cons_zero, List.setIfInBounds_toArray, List.set_cons_zero, List.set_cons_succ]
    refine wpAnyH_take (i := 6) (oi := ?o6_7) (v := .pointer (some ⟨bk, o + n * 4 + 2, none⟩)) ?h6_7 (by kernel_rfl) (by kernel_rfl) (by kernel_rfl) ?q6_7 ?y6_7 hHeld ?r6_7
    case h6_7 => exact rfl
    case q6_7 => exact fun _ _ _ h => h
    case y6_7 => exact Or.inl ⟨by rfl, fun w hw => by first | rfl | (go_simp; done) | (go_simp; kernel_rfl)⟩
    try simp only [Act.put, List.getElem_toArray, List.getElem_cons_succ, List.getElem_cons_zero, List.setIfInBounds_toArray, List.set_cons_zero, List.set_cons_succ]
    refine wpAnyH_take (i := 7) (oi := ?o7_8) (v := .int .i64 ta) ?h7_8 (by kernel_rfl) (by kernel_rfl) (by kernel_rfl) ?q7_8 ?y7_8 hHeld ?r7_8
    case h7_8 => exact rfl
    case q7_8 => exact fun _ _ _ h => h
    case y7_8 => exact Or.inl ⟨by rfl, fun w hw => by (dsimp only at hw); go_simp⟩
    try simp only [Act.put, List.getElem_toArray, List.getElem_cons_succ, List.getElem_cons_zero, List.setIfInBounds_toArray, List.set_cons_zero, List.set_cons_succ]
    refine wpAnyH_take (i := 8) (oi := ?o8_9) (v := .agg #[.int .i64 E, .int .i64 ta]) ?h8_9 (by kernel_rfl) (by kernel_rfl) (by kernel_rfl) ?q8_9 ?y8_9 hHeld ?r8_9
    case h8_9 => exact rfl
    case q8_9 => exact fun _ _ _ h => h
    case y8_9 => exact Or.inl ⟨by rfl, fun w hw => by first | rfl | (go_simp; done) | (go_simp; kernel_rfl)⟩
    try simp only [Act.put, List.getElem_toArray, List.getElem_cons_succ, List.getElem_cons_zero, List.setIfInBounds_toArray, List.set_cons_zero, List.set_cons_succ]
    refine wpAnyH_ready (rs := [9]) (by kernel_rfl) (by simp) ?_
    refine AllReadyH.cons (o := ?o9_10) ?h9_10 (fun K9 hK => ?s9_10) AllReadyH.nil
    case h9_10 => exact rfl
    rw [if_pos (by rfl)]
    refine wpK_store _ _ _ rfl rb 0 (.agg half0) half0 rfl rfl rfl _ _ (show W.drew.heap[rb]? = _ from HS.out.res) (by kernel_rfl) (Nat.le_of_ble_eq_true (by kernel_rfl)) half0_one _ (set_half0 _ _ _ _ _ _) (fun W2 g p' => ?_)
    have HG2 := Lib.hid g
    have HQ2 := Lib.hid p'
    have HC2 : Hid (W2.cell? ⟨bk, o + n * 4 + 2, none⟩ = some (.int .i64 ta)) := Lib.hid (put_cell p' HNB.out.1 HC.out)
    have HF2 := Lib.hid (p'.other (show W.drew.heap[fb]? = _ from HS.out.flt) HS.out.ne.symm)
    clear g p'
    refine hK.out _ _ HC2.out (fun hHeld2 => ?_)
    clear hK K9
    try simp only [Act.put, List.getElem_toArray, List.getElem_cons_succ, List.getElem_cons_zero, List.setIfInBounds_toArray, List.set_cons_zero, List.set_cons_succ]
    refine wpAnyH_ready (rs := [10]) (by kernel_rfl) (by simp) ?_
    refine AllReadyH.cons (o := ?o10_11) ?h10_11 (fun K10 hK => ?s10_11) AllReadyH.nil
    case h10_11 => exact rfl
    rw [if_pos (by rfl)]
    refine wpK_store _ _ _ rfl fb 0 (.agg #[.int .i64 E, .int .i64 ta]) #[.int .i64 E, .int .i64 ta] rfl rfl rfl _ _ HF2.out (by kernel_rfl) (Nat.le_of_ble_eq_true (by kernel_rfl)) (all_one2 _ _ rfl rfl) _ (set_flt _ _ _ _) (fun W3 g p' => ?_)
    have HG3 := Lib.hid g
    have HQ3 := Lib.hid p'
    have HR3 := Lib.hid (p'.other HG2.out HS.out.ne)
    have HC3 : Hid (W3.cell? ⟨bk, o + n * 4 + 2, none⟩ = some (.int .i64 ta)) := Lib.hid (put_cell p' HNB.out.2 HC2.out)
    clear g p'
    refine hK.out _ _ HC3.out (fun hHeld3 => ?_)
    clear hK K10
    try simp only [Act.put, List.getElem_toArray, List.getElem_cons_succ, List.getElem_cons_zero, List.setIfInBounds_toArray, List.set_cons_zero, List.set_cons_succ]
    refine wpAnyH_done (by kernel_rfl) ?_ _
    go_wp2
    refine bodyPost_ret (results_cells2 rfl _ _ rb fb 53 29 half0 #[.int .i64 E, .int .i64 ta] (0, 0) (0, 0) _ _ rfl HR3.out Try.underlying53 rfl (by kernel_rfl) rfl HG3.out Try.underlying29 rfl (by kernel_rfl)) rfl ?_
    exact half_out (W := W) (rb := rb) (fb := fb) E ta HE.out (HQ3.out.below (HQ2.out.below HS.out.below.drew HS.out.rlo) HS.out.flo) _ rfl
set_option maxHeartbeats 8000000 in
set_option maxRecDepth 1000000 in
theorem hf15 (w W : World) (rb fb hb vb n : Nat) (s : ByteArray) (A0 AB AE : Option Addr) (n0 c0 cb cE : Nat) (at_ pad E0 a0 : Int) (x : List S57) (b : List S48) (l : List El) (hs : s.size ≤ 1000000000) (hst : Hst w W rb fb)
    (hh : W.heap[hb]? = some (.cells (halfC (.slice none 0 0) (.slice none 0 0) N.np0 at_ pad 0) 53 (0, 0))) (hhl : w.heap.size ≤ hb) (hrh : rb ≠ hb) (hfh : fb ≠ hb)
    (hv : W.heap[vb]? = some (.cells #[.int .i64 E0, .int .i64 a0] 29 (0, 0))) (hvl : w.heap.size ≤ vb) (hvr : vb ≠ rb) (hvf : vb ≠ fb) (hvh : vb ≠ hb)
    (R0 : Kd.R k57 57 W w.heap.size (fun _ => True) (.slice A0 n0 c0) x)
    (RB : Kd.R k48 48 W w.heap.size (fun _ => True) (.slice AB b.length cb) b) (hbl : b.length ≤ 1000000000) (hE : Kd.C kEl w AE l.length l) (hn : n < l.length) :
    Code.wp Try.prog (Hf 15) (bodyPost Try.prog Try.f17 (HPost (h15 (at_, pad) s b x) w)) ⟨#[.slice AE l.length cE,v1,v2,v3,v4,v5, .pointer (some ⟨rb, 0, none⟩), .pointer (some ⟨fb, 0, none⟩), .int .i64 (n : Int),v9, .pointer (some ⟨hb, 0, none⟩),v11,v12,v13,v14, .slice AB b.length cb, .string s,v17, .slice A0 n0 c0, .pointer (some ⟨vb, 0, none⟩),v20,v21,v22,v23,v24,v25,v26,v27,v28,v29,v30,v31,v32,v33,v34,v35,v36,v37,v38,v39,v40,v41,v42,v43,v44,v45,v46,v47,v48,v49,v50,v51,v52,v53,v54,v55,v56,v57,v58,v59,v60,v61,v62,v63,v64,v65,v66,v67,v68,v69,v70,v71,v72,v73,v74,v75,v76,v77,v78,v79,v80,v81,v82,v83,v84,v85,v86,v87,v88,v89,v90,v91,v92,v93,v94,v95,v96,v97,v98,v99,v100,v101,v102,v103,v104,v105,v106,v107,v108,v109,v110,v111,v112,v113,v114,v115,v116,v117,v118,v119,v120,v121,v122,v123,v124,v125,v126,v127,v128,v129,v130,v131,v132,v133,v134,v135,v136,v137,v138,v139,v140,v141,v142,v143,v144,v145,v146,v147,v148,v149,v150,v151,v152,v153,v154,v155,v156,v157,v158,v159,v160,v161,v162,v163,v164,v165,v166,v167,v168,v169,v170,v171,v172,v173,v174,v175,v176,v177,v178,v179,v180,v181,v182,v183,v184,v185,v186,v187,v188,v189,v190,v191,v192,v193,v194,v195,v196,v197,v198,v199,v200,v201,v202,v203,v204,v205,v206,v207,v208,v209,v210,v211,v212,v213,v214,v215,v216,v217,v218,v219,v220,v221,v222,v223,v224,v225,v226,v227,v228,v229,v230,v231,v232,v233,v234,v235,v236,v237,v238,v239,v240,v241,v242,v243,v244,v245,v246], []⟩ W := by
  have HS := Lib.hid hst
  have HALL := Lib.hid (And.intro hh (And.intro hhl (And.intro hrh (And.intro hfh (And.intro hv (And.intro hvl (And.intro hvr (And.intro hvf (And.intro hvh (And.intro R0 (And.intro RB (And.intro hbl (And.intro hE hn)))))))))))))
  have HNC : Hid (∀ W, Calls Try.prog 14 #[.string s] W fun e w' => e = .returned (.tuple #[.agg (patN (N.numN (N.L s)).1), .int .i64 (N.numN (N.L s)).2]) ∧ Below W.heap.size W w') := Lib.hid fun W => number_calls s hs W
  clear hst hh hhl hrh hfh hv hvl hvr hvf hvh R0 RB hbl hE hn hs
  unfold h15
  obtain ⟨E, hE⟩ : ∃ E, E = (N.numN (N.L s)).2 := ⟨_, rfl⟩
  obtain ⟨p, hp⟩ : ∃ p, p = (N.numN (N.L s)).1 := ⟨_, rfl⟩
  rw [← hE, ← hp]
  rw [← hE, ← hp] at HNC
  clear hE hp
  obtain ⟨r, hr⟩ : ∃ r, r = (if E = 0 then h17 (at_, pad) s b x p else none) := ⟨_, rfl⟩
  rw [← hr]
  have HRR := Lib.hid hr
  clear hr
  rw [show Hf 15 = .seq (stmtOf 15 hfBody) (Hf 16) from by kernel_rfl]
  have hz15 : stmtOf 15 hfBody = stmtOf 15 hfBody := rfl
  conv at hz15 => rhs; whnf
  rw [hz15]; clear hz15
  go_wp2_with (first
    | (go_at_call 14; (with_reducible refine (HNC.out _).mono ?_); rintro e W1 ⟨rfl, b1⟩; have HB1 := Lib.hid b1; clear b1)
    | ((with_reducible refine gate_store (t := 26) (p := 20) rfl ?_); refine store_any_event rfl rfl rfl W1.heap.size 0 (.agg (patN p)) (patN p) rfl rfl rfl _ _ (heap_alloc_new W1 _) (by kernel_rfl) (Nat.le_of_ble_eq_true (by kernel_rfl)) (patN_one p) _ (set_pat0 p) ?_; intro W2 g p'; have HG2 := Lib.hid g; have HQ2 := Lib.hid p'; clear g p'))
  obtain ⟨hh, hhl, hrh, hfh, hv, hvl, hvr, hvf, hvh, R0, RB, hbl, hE, hn⟩ := HALL.out
  have hs1 := HS.out.step HB1.out
  have hsz := HB1.out.size
  have hwW : w.heap.size ≤ W.heap.size := HS.out.below.size
  have hlt : ∀ {k : Nat} {ob : Obj}, W.heap[k]? = some ob → k < W.heap.size := fun h => blk_lt h
  have key : ∀ {k : Nat} {ob : Obj}, W.heap[k]? = some ob → W2.heap[k]? = some ob := fun {k} {ob} h => HQ2.out.other (blk_alloc (heap_keeps HB1.out h) _) (by have := hlt h; omega)
  have b2 : Below W.heap.size W W2 := HQ2.out.below (below_alloc HB1.out _) hsz
  have RB2 := Kd.R_reads (Kd.R_below RB b2)
  obtain ⟨A', c', h1, h2, h3⟩ := RB2
  injection h1 with e1 e2 e3
  subst e1 e3
  exact hf16 w W2 rb fb hb W1.heap.size vb n s A0 AB AE n0 c0 cb cE at_ pad E0 a0 E p x b l _ HRR.out (HS.out.step b2) (key hh) hhl hrh hfh HG2.out (by have := hlt hh; omega) (key hv) hvl hvr hvf hvh (by have := hlt hv; omega)
    (Kd.R_below R0 b2) h3 h2 hbl hE hn
open Go.RowKit Go.Proofs.Ytkgdpgoianimjaa.Utf Go.Proofs.YtkgdpgoianimjaaW.PrintWords Go.Proofs.YtkgdpgoianimjaaW.PrintLast Go.Proofs.YtkgdpgoianimjaaW.PrintMore
set_option linter.unusedVariables false
set_option linter.unusedSimpArgs false
set_option maxHeartbeats 8000000 in
set_option maxRecDepth 1000000 in
theorem hf14 (w W : World) (rb fb hb vb n : Nat) (s : ByteArray) (A0 AB AE : Option Addr) (n0 c0 cb cE : Nat) (at_ pad E a : Int) (x : List S57) (b : List S48) (l : List El) (r : Option HalfR) (hr : r = if E = 0 then h15 (at_, pad) s b x else none) (hs : s.size ≤ 1000000000) (hst : Hst w W rb fb)
    (hh : W.heap[hb]? = some (.cells (halfC (.slice none 0 0) (.slice none 0 0) N.np0 at_ pad 0) 53 (0, 0))) (hhl : w.heap.size ≤ hb) (hrh : rb ≠ hb) (hfh : fb ≠ hb)
    (hv : W.heap[vb]? = some (.cells #[.int .i64 E, .int .i64 a] 29 (0, 0))) (hvl : w.heap.size ≤ vb) (hvr : vb ≠ rb) (hvf : vb ≠ fb) (hvh : vb ≠ hb)
    (R0 : Kd.R k57 57 W w.heap.size (fun _ => True) (.slice A0 n0 c0) x)
    (RB : Kd.R k48 48 W w.heap.size (fun _ => True) (.slice AB b.length cb) b) (hbl : b.length ≤ 1000000000) (hE : Kd.C kEl w AE l.length l) (hn : n < l.length) :
    Code.wp Try.prog (Hf 14) (bodyPost Try.prog Try.f17 (HPost r w)) ⟨#[.slice AE l.length cE,v1,v2,v3,v4,v5, .pointer (some ⟨rb, 0, none⟩), .pointer (some ⟨fb, 0, none⟩), .int .i64 (n : Int),v9, .pointer (some ⟨hb, 0, none⟩),v11,v12,v13,v14, .slice AB b.length cb, .string s,v17, .slice A0 n0 c0, .pointer (some ⟨vb, 0, none⟩),v20,v21,v22,v23,v24,v25,v26,v27,v28,v29,v30,v31,v32,v33,v34,v35,v36,v37,v38,v39,v40,v41,v42,v43,v44,v45,v46,v47,v48,v49,v50,v51,v52,v53,v54,v55,v56,v57,v58,v59,v60,v61,v62,v63,v64,v65,v66,v67,v68,v69,v70,v71,v72,v73,v74,v75,v76,v77,v78,v79,v80,v81,v82,v83,v84,v85,v86,v87,v88,v89,v90,v91,v92,v93,v94,v95,v96,v97,v98,v99,v100,v101,v102,v103,v104,v105,v106,v107,v108,v109,v110,v111,v112,v113,v114,v115,v116,v117,v118,v119,v120,v121,v122,v123,v124,v125,v126,v127,v128,v129,v130,v131,v132,v133,v134,v135,v136,v137,v138,v139,v140,v141,v142,v143,v144,v145,v146,v147,v148,v149,v150,v151,v152,v153,v154,v155,v156,v157,v158,v159,v160,v161,v162,v163,v164,v165,v166,v167,v168,v169,v170,v171,v172,v173,v174,v175,v176,v177,v178,v179,v180,v181,v182,v183,v184,v185,v186,v187,v188,v189,v190,v191,v192,v193,v194,v195,v196,v197,v198,v199,v200,v201,v202,v203,v204,v205,v206,v207,v208,v209,v210,v211,v212,v213,v214,v215,v216,v217,v218,v219,v220,v221,v222,v223,v224,v225,v226,v227,v228,v229,v230,v231,v232,v233,v234,v235,v236,v237,v238,v239,v240,v241,v242,v243,v244,v245,v246], []⟩ W := by
  have HS := Lib.hid hst
  have HV := Lib.hid hv
  have e0 := (blk_cell hv 0).trans rfl
  by_cases hE0 : E = 0
  · have t1 : (E != 0) = false := by rw [hE0]; rfl
    rw [if_pos hE0] at hr
    have HRR := Lib.hid hr
    have HALL := Lib.hid (And.intro hs (And.intro hh (And.intro hhl (And.intro hrh (And.intro hfh (And.intro hv (And.intro hvl (And.intro hvr (And.intro hvf (And.intro hvh (And.intro R0 (And.intro RB (And.intro hbl (And.intro hE hn))))))))))))))
    clear hst hE0 hh hhl hrh hfh hv hvl hvr hvf hvh R0 RB hbl hE hn hs hr
    rw [show Hf 14 = .seq (stmtOf 14 hfBody) (Hf 15) from by kernel_rfl]
    have hz14 : stmtOf 14 hfBody = stmtOf 14 hfBody := rfl
    conv at hz14 => rhs; whnf
    rw [hz14]; clear hz14
    go_wp2
    obtain ⟨hs, hh, hhl, hrh, hfh, hv, hvl, hvr, hvf, hvh, R0, RB, hbl, hE, hn⟩ := HALL.out
    rw [HRR.out]
    exact hf15 w W rb fb hb vb n s A0 AB AE n0 c0 cb cE at_ pad E a x b l hs HS.out hh hhl hrh hfh hv hvl hvr hvf hvh R0 RB hbl hE hn
  · have t1 : (E != 0) = true := bne_iff_ne.2 hE0
    rw [if_neg hE0] at hr
    subst hr
    have HE := Lib.hid hE0
    have HN : Hid (True ∧ True ∧ True ∧ True ∧ vb ≠ rb ∧ vb ≠ fb) := Lib.hid ⟨trivial, trivial, trivial, trivial, hvr, hvf⟩
    clear hst hE0 hh hhl hrh hfh hv hvl hvr hvf hvh R0 RB hbl hE hn hs
    rw [show Hf 14 = .seq (stmtOf 14 hfBody) (Hf 15) from by kernel_rfl]
    have hz14 : stmtOf 14 hfBody = stmtOf 14 hfBody := rfl
    conv at hz14 => rhs; whnf
    rw [hz14]; clear hz14
    go_wp2
    have HD : Hid (W.drew.heap[vb]? = some (.cells #[.int .i64 E, .int .i64 a] 29 (0, 0))) := Lib.hid HV.out
    refine wp_region_held_drew (S := (fun w' => w'.rangeAt vb 0 (#[.int .i64 E, .int .i64 a] : Array Value).toList)) (by kernel_rfl) (row_range HD.out) (fun hHeld => ?_)
    refine wpAnyH_take (i := 0) (oi := ?o0_1) (v := .agg half0) ?h0_1 (by kernel_rfl) (by kernel_rfl) (by kernel_rfl) ?q0_1 ?y0_1 hHeld ?r0_1
    case h0_1 => exact rfl
    case q0_1 => exact fun _ _ _ h => h
    case y0_1 => exact Or.inl ⟨by rfl, fun w hw => by first | rfl | (go_simp; done) | (go_simp; kernel_rfl)⟩
    try simp only [Act.put, List.getElem_toArray, List.getElem_cons_succ, List.getElem_cons_zero, List.setIfInBounds_toArray, List.set_cons_zero, List.set_cons_succ]
    refine wpAnyH_take (i := 1) (oi := ?o1_2) (v := .agg #[.int .i64 E, .int .i64 a]) ?h1_2 (by kernel_rfl) (by kernel_rfl) (by kernel_rfl) ?q1_2 ?y1_2 hHeld ?r1_2
    case h1_2 => exact rfl
    case q1_2 => exact fun _ _ _ h => h
    case y1_2 => exact yields_row (by rfl) _ _ rfl _ rfl #[.int .i64 E, .int .i64 a] _ (fun _ h => h) Try.underlying29 rfl (by kernel_rfl)
    try simp only [Act.put, List.getElem_toArray, List.getElem_cons_succ, List.getElem_cons_zero, List.setIfInBounds_toArray, List.set_cons_zero, List.set_cons_succ]
    refine wpAnyH_ready (rs := [2]) (by kernel_rfl) (by simp) ?_
    refine AllReadyH.cons (o := ?o2_3) ?h2_3 (fun K2 hK => ?s2_3) AllReadyH.nil
    case h2_3 => exact rfl
    rw [if_pos (by rfl)]
    refine wpK_store _ _ _ rfl rb 0 (.agg half0) half0 rfl rfl rfl _ _ (show W.drew.heap[rb]? = _ from HS.out.res) (by kernel_rfl) (Nat.le_of_ble_eq_true (by kernel_rfl)) half0_one _ (set_half0 _ _ _ _ _ _) (fun W2 g p' => ?_)
    have HG2 := Lib.hid g
    have HQ2 := Lib.hid p'
    have HD2 := Lib.hid (p'.other HD.out HN.out.2.2.2.2.1)
    have HF2 := Lib.hid (p'.other (show W.drew.heap[fb]? = _ from HS.out.flt) HS.out.ne.symm)
    clear g p'
    refine hK.out _ _ (row_range HD2.out) (fun hHeld2 => ?_)
    clear hK K2
    try simp only [Act.put, List.getElem_toArray, List.getElem_cons_succ, List.getElem_cons_zero, List.setIfInBounds_toArray, List.set_cons_zero, List.set_cons_succ]
    refine wpAnyH_ready (rs := [3]) (by kernel_rfl) (by simp) ?_
    refine AllReadyH.cons (o := ?o3_4) ?h3_4 (fun K3 hK => ?s3_4) AllReadyH.nil
    case h3_4 => exact rfl
    rw [if_pos (by rfl)]
    refine wpK_store _ _ _ rfl fb 0 (.agg #[.int .i64 E, .int .i64 a]) #[.int .i64 E, .int .i64 a] rfl rfl rfl _ _ HF2.out (by kernel_rfl) (Nat.le_of_ble_eq_true (by kernel_rfl)) (all_one2 _ _ rfl rfl) _ (set_flt _ _ _ _) (fun W3 g p' => ?_)
    have HG3 := Lib.hid g
    have HQ3 := Lib.hid p'
    have HR3 := Lib.hid (p'.other HG2.out HS.out.ne)
    have HD3 := Lib.hid (p'.other HD2.out HN.out.2.2.2.2.2)
    clear g p'
    refine hK.out _ _ (row_range HD3.out) (fun hHeld3 => ?_)
    clear hK K3
    try simp only [Act.put, List.getElem_toArray, List.getElem_cons_succ, List.getElem_cons_zero, List.setIfInBounds_toArray, List.set_cons_zero, List.set_cons_succ]
    refine wpAnyH_done (by kernel_rfl) ?_ _
    go_wp2
    refine bodyPost_ret (results_cells2 rfl _ _ rb fb 53 29 half0 #[.int .i64 E, .int .i64 a] (0, 0) (0, 0) _ _ rfl HR3.out Try.underlying53 rfl (by kernel_rfl) rfl HG3.out Try.underlying29 rfl (by kernel_rfl)) rfl ?_
    exact half_out (W := W) (rb := rb) (fb := fb) E a HE.out (HQ3.out.below (HQ2.out.below HS.out.below.drew HS.out.rlo) HS.out.flo) _ rfl
set_option maxHeartbeats 8000000 in
set_option maxRecDepth 1000000 in
theorem hf13 (w W : World) (rb fb hb n : Nat) (s : ByteArray) (AA AB AE : Option Addr) (ca cb cE : Nat) (at_ pad : Int) (a b : List S48) (l : List El) (hs : s.size ≤ 1000000000) (hst : Hst w W rb fb)
    (hh : W.heap[hb]? = some (.cells (halfC (.slice none 0 0) (.slice none 0 0) N.np0 at_ pad 0) 53 (0, 0))) (hhl : w.heap.size ≤ hb) (hrh : rb ≠ hb) (hfh : fb ≠ hb)
    (RA : Kd.R k48 48 W w.heap.size (fun _ => True) (.slice AA a.length ca) a) (hal : a.length ≤ 1000000000)
    (RB : Kd.R k48 48 W w.heap.size (fun _ => True) (.slice AB b.length cb) b) (hbl : b.length ≤ 1000000000) (hE : Kd.C kEl w AE l.length l) (hn : n < l.length) :
    Code.wp Try.prog (Hf 13) (bodyPost Try.prog Try.f17 (HPost (h13 (at_, pad) a s b) w)) ⟨#[.slice AE l.length cE,v1,v2,v3,v4,v5, .pointer (some ⟨rb, 0, none⟩), .pointer (some ⟨fb, 0, none⟩), .int .i64 (n : Int),v9, .pointer (some ⟨hb, 0, none⟩),v11,v12,v13, .slice AA a.length ca, .slice AB b.length cb, .string s,v17,v18,v19,v20,v21,v22,v23,v24,v25,v26,v27,v28,v29,v30,v31,v32,v33,v34,v35,v36,v37,v38,v39,v40,v41,v42,v43,v44,v45,v46,v47,v48,v49,v50,v51,v52,v53,v54,v55,v56,v57,v58,v59,v60,v61,v62,v63,v64,v65,v66,v67,v68,v69,v70,v71,v72,v73,v74,v75,v76,v77,v78,v79,v80,v81,v82,v83,v84,v85,v86,v87,v88,v89,v90,v91,v92,v93,v94,v95,v96,v97,v98,v99,v100,v101,v102,v103,v104,v105,v106,v107,v108,v109,v110,v111,v112,v113,v114,v115,v116,v117,v118,v119,v120,v121,v122,v123,v124,v125,v126,v127,v128,v129,v130,v131,v132,v133,v134,v135,v136,v137,v138,v139,v140,v141,v142,v143,v144,v145,v146,v147,v148,v149,v150,v151,v152,v153,v154,v155,v156,v157,v158,v159,v160,v161,v162,v163,v164,v165,v166,v167,v168,v169,v170,v171,v172,v173,v174,v175,v176,v177,v178,v179,v180,v181,v182,v183,v184,v185,v186,v187,v188,v189,v190,v191,v192,v193,v194,v195,v196,v197,v198,v199,v200,v201,v202,v203,v204,v205,v206,v207,v208,v209,v210,v211,v212,v213,v214,v215,v216,v217,v218,v219,v220,v221,v222,v223,v224,v225,v226,v227,v228,v229,v230,v231,v232,v233,v234,v235,v236,v237,v238,v239,v240,v241,v242,v243,v244,v245,v246], []⟩ W := by
  have HS := Lib.hid hst
  have HALL := Lib.hid (And.intro hs (And.intro hh (And.intro hhl (And.intro hrh (And.intro hfh (And.intro RB (And.intro hbl (And.intro hE hn))))))))
  obtain ⟨A', c', q1, q2, q3⟩ := Kd.R_reads RA
  injection q1 with e1 e2 e3
  subst e1 e3
  have HRA := Lib.hid q3
  have HCA := Lib.hid q2
  have HI := Lib.hid (items_f a hal)
  clear hst hh hhl hrh hfh RA RB hal hbl hE hn hs q2 q3 e2
  unfold h13
  obtain ⟨r, hr⟩ : ∃ r, r = (if (itemsGo a []).2.1 = 0 then h15 (at_, pad) s b (itemsGo a []).1 else none) := ⟨_, rfl⟩
  rw [← hr]
  have HRR := Lib.hid hr
  clear hr
  rw [show Hf 13 = .seq (stmtOf 13 hfBody) (Hf 14) from by kernel_rfl]
  have hz13 : stmtOf 13 hfBody = stmtOf 13 hfBody := rfl
  conv at hz13 => rhs; whnf
  rw [hz13]; clear hz13
  go_wp2_with (first
    | (go_at_call 37; (with_reducible refine (figureheadref13_Items.calls _ _ a _ _ _ _ HRA.out HCA.out HI.out).mono ?_); rintro e W1 ⟨v22, rfl, hRy, b1⟩; have HRy := Lib.hid hRy; have HB1 := Lib.hid b1; clear hRy b1)
    | ((with_reducible refine gate_store (t := 29) (p := 19) rfl ?_); refine store_any_event rfl rfl rfl W1.heap.size 0 (.agg #[.int .i64 (itemsGo a []).2.1, .int .i64 (itemsGo a []).2.2]) #[.int .i64 (itemsGo a []).2.1, .int .i64 (itemsGo a []).2.2] rfl rfl rfl _ _ (heap_alloc_new W1 _) (by kernel_rfl) (Nat.le_of_ble_eq_true (by kernel_rfl)) (all_one2 _ _ rfl rfl) _ (set_flt _ _ _ _) ?_; intro W2 g p'; have HG2 := Lib.hid g; have HQ2 := Lib.hid p'; clear g p'))
  obtain ⟨A1, c1, rfl⟩ : ∃ A1 c1, v22 = .slice A1 (itemsGo a []).1.length c1 := by
    obtain ⟨A, c, h⟩ := Kd.R_slice HRy.out
    exact ⟨A, c, h⟩
  obtain ⟨hs, hh, hhl, hrh, hfh, RB, hbl, hE, hn⟩ := HALL.out
  have hsz := HB1.out.size
  have hwW : w.heap.size ≤ W.heap.size := HS.out.below.size
  have hlt : ∀ {k : Nat} {ob : Obj}, W.heap[k]? = some ob → k < W.heap.size := fun h => blk_lt h
  have key : ∀ {k : Nat} {ob : Obj}, W.heap[k]? = some ob → W2.heap[k]? = some ob := fun {k} {ob} h => HQ2.out.other (blk_alloc (heap_keeps HB1.out h) _) (by have := hlt h; omega)
  have b2 : Below W.heap.size W W2 := HQ2.out.below (below_alloc HB1.out _) hsz
  have l1 := hlt HS.out.res
  have l2 := hlt HS.out.flt
  have l3 := hlt hh
  exact hf14 w W2 rb fb hb W1.heap.size n s A1 AB AE _ c1 cb cE at_ pad (itemsGo a []).2.1 (itemsGo a []).2.2 (itemsGo a []).1 b l _ HRR.out hs (HS.out.step b2) (key hh) hhl hrh hfh HG2.out (by omega) (by omega) (by omega) (by omega)
    (R_put (Kd.R_alloc (Kd.R_lower HRy.out hwW) _) (heap_alloc_new W1 _) (by decide) HQ2.out) (Kd.R_below RB b2) hbl hE hn
open Go.RowKit Go.Proofs.Ytkgdpgoianimjaa.Utf Go.Proofs.YtkgdpgoianimjaaW.PrintWords Go.Proofs.YtkgdpgoianimjaaW.PrintLast Go.Proofs.YtkgdpgoianimjaaW.PrintMore
set_option linter.unusedVariables false
set_option linter.unusedSimpArgs false
theorem bytes_ex (r : Int) : ∃ t, figureheadref11_Bytes.f r = some t ∧ t.length ≤ 4 := by
  unfold figureheadref11_Bytes.f
  repeat' split
  all_goals exact ⟨_, rfl, by simp⟩
theorem strOfNums_size (t : List Int) : (strOfNums t).size = t.length := by simp [strOfNums, ByteArray.size]
theorem R_excl {α : Type} {d : Kd α} {e base : Nat} {W : World} {u v : Value} {xs ys : List α} (hE : d.E = []) (hu : d.R e W base (fun k => True ∧ some k ≠ v.ownBlock) u xs) (hv : d.R e W base (fun _ => True) v ys) : d.R e W base (fun k => True ∧ some k ≠ u.ownBlock) v ys :=
  Kd.R_mono (Kd.R_tight hE hv) (fun k hk => ⟨trivial, fun he => (hu.1 k he.symm).2 hk⟩)
theorem R_grow2 {α : Type} {d : Kd α} {e base : Nat} {W W' : World} {u v : Value} {xs : List α} (h : d.R e W base (fun k => True ∧ some k ≠ u.ownBlock) v xs) (hg : W.grownBy W' u.ownBlock) : d.R e W' base (fun _ => True) v xs :=
  Kd.R_mono (Kd.R_grown h hg (fun k hk => hk.2)) (fun _ _ => trivial)
set_option maxHeartbeats 8000000 in
set_option maxRecDepth 1000000 in
theorem hf10 (w W : World) (rb fb hb n e : Nat) (AE : Option Addr) (cE : Nat) (at_ pad : Int) (l : List El) (hst : Hst w W rb fb)
    (hh : W.heap[hb]? = some (.cells (halfC (.slice none 0 0) (.slice none 0 0) N.np0 at_ pad 0) 53 (0, 0))) (hhl : w.heap.size ≤ hb) (hrh : rb ≠ hb) (hfh : fb ≠ hb)
    (hE : Kd.C kEl w AE l.length l) (hn : n < l.length) (hl : l.length ≤ 100000000) :
    Code.wp Try.prog (Hf 10) (bodyPost Try.prog Try.f17 (HPost (h12 n e l (at_, pad)) w)) ⟨#[.slice AE l.length cE,v1,v2,v3,v4,v5, .pointer (some ⟨rb, 0, none⟩), .pointer (some ⟨fb, 0, none⟩), .int .i64 (n : Int), .int .i64 (e : Int), .pointer (some ⟨hb, 0, none⟩),v11,v12,v13,v14,v15,v16,v17,v18,v19,v20,v21,v22,v23,v24,v25,v26,v27,v28,v29,v30,v31,v32,v33,v34,v35,v36,v37,v38,v39,v40,v41,v42,v43,v44,v45,v46,v47,v48,v49,v50,v51,v52,v53,v54,v55,v56,v57,v58,v59,v60,v61,v62,v63,v64,v65,v66,v67,v68,v69,v70,v71,v72,v73,v74,v75,v76,v77,v78,v79,v80,v81,v82,v83,v84,v85,v86,v87,v88,v89,v90,v91,v92,v93,v94,v95,v96,v97,v98,v99,v100,v101,v102,v103,v104,v105,v106,v107,v108,v109,v110,v111,v112,v113,v114,v115,v116,v117,v118,v119,v120,v121,v122,v123,v124,v125,v126,v127,v128,v129,v130,v131,v132,v133,v134,v135,v136,v137,v138,v139,v140,v141,v142,v143,v144,v145,v146,v147,v148,v149,v150,v151,v152,v153,v154,v155,v156,v157,v158,v159,v160,v161,v162,v163,v164,v165,v166,v167,v168,v169,v170,v171,v172,v173,v174,v175,v176,v177,v178,v179,v180,v181,v182,v183,v184,v185,v186,v187,v188,v189,v190,v191,v192,v193,v194,v195,v196,v197,v198,v199,v200,v201,v202,v203,v204,v205,v206,v207,v208,v209,v210,v211,v212,v213,v214,v215,v216,v217,v218,v219,v220,v221,v222,v223,v224,v225,v226,v227,v228,v229,v230,v231,v232,v233,v234,v235,v236,v237,v238,v239,v240,v241,v242,v243,v244,v245,v246], []⟩ W := by
  have HS := Lib.hid hst
  have HALL := Lib.hid (And.intro hh (And.intro hhl (And.intro hrh (And.intro hfh (And.intro hE (And.intro hn hl))))))
  obtain ⟨bk, o, hA1, hbk, hcells⟩ := els_at hE (fun e => by rw [e] at hn; simp at hn)
  have HCE := Lib.hid hcells
  have HAE := Lib.hid hA1
  have HBK := Lib.hid hbk
  obtain ⟨R, hR⟩ : ∃ R, R = splitF n e 0 l ([], ⟨#[]⟩, []) := ⟨_, rfl⟩
  unfold h12
  rw [← hR]
  have HRR := Lib.hid hR
  have HL := Lib.hid hl
  clear hst hh hhl hrh hfh hE hn hR hbk hcells hA1
  rw [show Hf 10 = .seq (stmtOf 10 hfBody) (.seq (stmtOf 11 hfBody) (.seq (stmtOf 12 hfBody) (Hf 13))) from by kernel_rfl]
  have hz10 : stmtOf 10 hfBody = stmtOf 10 hfBody := rfl
  conv at hz10 => rhs; whnf
  rw [hz10]; clear hz10
  have hz11 : stmtOf 11 hfBody = stmtOf 11 hfBody := rfl
  conv at hz11 => rhs; whnf
  rw [hz11]; clear hz11
  have hz12 : stmtOf 12 hfBody = stmtOf 12 hfBody := rfl
  conv at hz12 => rhs; whnf
  rw [hz12]; clear hz12
  go_wp2
  go_loopw [14, 15, 16, 17] (fun v14 v15 v16 v17 wx => ∃ (i : Nat) (a b : List S48) (s : ByteArray), v17 = .int .i64 (i : Int) ∧ v16 = .string s ∧ i ≤ l.length ∧ Kd.R k48 48 wx W.heap.size (fun k => True ∧ some k ≠ v15.ownBlock) v14 a ∧ Kd.R k48 48 wx W.heap.size (fun _ => True) v15 b ∧ Below W.heap.size W wx ∧ Hid (splitF n e i (l.drop i) (a, s, b) = R) ∧ a.length ≤ i ∧ b.length ≤ i ∧ s.size ≤ 4 * i) (fun v14 v15 v16 v17 wx => l.length - (RowKit.intOf v17).toNat)
  case atStart => exact ⟨0, [], [], ⟨#[]⟩, rfl, rfl, Nat.zero_le _, Kd.R_nil _ _ _ _ _, Kd.R_nil _ _ _ _ _, Below.refl _ _, HRR.out.symm ▸ Lib.hid rfl, by simp, by simp, Nat.le_refl 0⟩
  case round =>
    obtain ⟨i, a, b, s, rfl, rfl, hil, hRa, hRb, hb1, hgo, hal, hbl, hsl⟩ := hrel
    have HRa := Lib.hid hRa
    have HRb := Lib.hid hRb
    have HB1 := Lib.hid hb1
    have hsz1 := hb1.size
    have hl := HL.out
    clear hRa hRb hb1
    by_cases hi : i < l.length
    · obtain ⟨x, hx⟩ : ∃ x, l[i]? = some x := ⟨_, List.getElem?_eq_getElem hi⟩
      have hia := fun W => idx_els l.length cE i bk o AE W HAE.out hi
      have hc := HCE.out i x hx
      have hbw : Below w.heap.size w wr := below_step HS.out.below HB1.out
      have hcx0 := (hbw.cell (p := ⟨bk, o + i * 4, none⟩) HBK.out).trans hc.1
      have hcx1 := (hbw.cell (p := ⟨bk, o + i * 4 + 1, none⟩) HBK.out).trans hc.2.1
      have hcx2 := (hbw.cell (p := ⟨bk, o + i * 4 + 2, none⟩) HBK.out).trans hc.2.2.1
      have hcx3 := (hbw.cell (p := ⟨bk, o + i * 4 + 3, none⟩) HBK.out).trans hc.2.2.2
      have hgo' := hgo.out
      rw [drop_getE hx] at hgo'
      clear hgo hx hc hbw
      obtain ⟨⟨q, bb, ta⟩, p⟩ := x
      simp only at hcx0 hcx1 hcx2 hcx3
      simp only [splitF] at hgo'
      cases p with
      | true =>
        rw [if_pos rfl] at hgo'
        have HG := Lib.hid hgo'
        clear hgo'
        go_wp2
        go_roundw
        case rel => exact ⟨i + 1, a, b, s, by go_num, rfl, by omega, HRa.out, HRb.out, HB1.out, HG, by omega, by omega, by omega⟩
        case measure => simp [RowKit.intOf]; omega
      | false =>
        rw [if_neg (by simp)] at hgo'
        by_cases h1 : i < n
        · rw [if_pos h1] at hgo'
          have HG := Lib.hid hgo'
          have t1 : decide ((i : Int) < (n : Int)) = true := decide_eq_true (by omega)
          have t1n : decide (i < n) = true := decide_eq_true (by omega)
          clear hgo' h1
          go_wp2_with (((with_reducible refine gate_builtin (b := .append) (xs := #[.tmp 171, .tmp 177]) rfl ?_); at_builtin; refine Kd.R_append k48 (w0 := W) W.heap.size rfl (.tmp 171) (.tmp 177) 43 48 (.agg #[.int .i32 0, .bool false, .int .i64 0]) 16 rfl Try.underlying43 (by kernel_rfl) rfl (by decide) (by omega) _ a ⟨q, bb, ta⟩ [.int .i32 q, .bool bb, .int .i64 ta] (fun k => True ∧ some k ≠ Value.ownBlock _) (fun _ => False) rfl (by simp [Act.eval]) ?aP (fun _ hk => hk.elim) ?aF HRa.out HB1.out hsz1 (by omega) ?_; (case aP => exact k48_mkM _ _ _ _); (case aF => exact fun k hk => ⟨trivial, fun he => absurd (Kd.R_lt HRb.out k he.symm) (by omega)⟩); intro v140 w10 ho hb hg hat; have HO := Lib.hid ho; have HB := Lib.hid hb; have HGR := Lib.hid hg; clear ho hb hg hat))
          go_roundw
          case rel => exact ⟨i + 1, a ++ [⟨q, bb, ta⟩], b, s, by go_num, rfl, by omega, HO.out, R_grow2 (R_excl rfl HRa.out HRb.out) HGR.out, HB.out, HG, by simp; omega, by omega, by omega⟩
          case measure => simp [RowKit.intOf]; omega
        · rw [if_neg h1] at hgo'
          have t1 : decide ((i : Int) < (n : Int)) = false := decide_eq_false (by omega)
          have t1n : decide (i < n) = false := decide_eq_false (by omega)
          by_cases h2 : i < e
          · rw [if_pos h2] at hgo'
            have HG := Lib.hid hgo'
            have t2 : decide ((i : Int) < (e : Int)) = true := decide_eq_true (by omega)
            have t2n : decide (i < e) = true := decide_eq_true (by omega)
            obtain ⟨t, ht, htl⟩ := bytes_ex q
            have HT := Lib.hid ht
            have hby : bytesB q = strOfNums t := by unfold bytesB; rw [ht]; rfl
            have hbz : (strOfNums t).size = t.length := strOfNums_size t
            clear hgo' h1 h2 ht
            go_wp2_with ((go_at_call 29; (with_reducible refine (figureheadref11_Bytes.calls q t _ HT.out).mono ?_); rintro e W5 ⟨v161, rfl, ho0, b5⟩; have HB5 := Lib.hid b5; have hcv := own_string (P := Try.prog) Try.underlying68 Try.underlying5 Try.underlying9 (Kd.own_of_R ho0); clear ho0 b5))
            go_roundw
            case rel => exact ⟨i + 1, a, b, s ++ bytesB q, by go_num, by rw [hby], by omega, Kd.R_below HRa.out HB5.out, Kd.R_below HRb.out HB5.out, below_step HB1.out HB5.out, HG, by omega, by omega, by rw [ByteArray.size_append, hby]; omega⟩
            case measure => simp [RowKit.intOf]; omega
          · rw [if_neg h2] at hgo'
            have HG := Lib.hid hgo'
            have t2 : decide ((i : Int) < (e : Int)) = false := decide_eq_false (by omega)
            have t2n : decide (i < e) = false := decide_eq_false (by omega)
            clear hgo' h1 h2
            go_wp2_with (((with_reducible refine gate_builtin (b := .append) (xs := #[.tmp 192, .tmp 198]) rfl ?_); at_builtin; refine Kd.R_append k48 (w0 := W) W.heap.size rfl (.tmp 192) (.tmp 198) 43 48 (.agg #[.int .i32 0, .bool false, .int .i64 0]) 16 rfl Try.underlying43 (by kernel_rfl) rfl (by decide) (by omega) _ b ⟨q, bb, ta⟩ [.int .i32 q, .bool bb, .int .i64 ta] (fun _ => True) (fun _ => False) rfl (by simp [Act.eval]) ?aP (fun _ hk => hk.elim) (fun _ _ => trivial) HRb.out HB1.out hsz1 (by omega) ?_; (case aP => exact k48_mkM _ _ _ _); intro v140 w10 ho hb hg hat; have HO := Lib.hid ho; have HB := Lib.hid hb; have HRa2 := Lib.hid (Kd.R_after HRa.out hg hat); clear ho hb hg hat))
            go_roundw
            case rel => exact ⟨i + 1, a, b ++ [⟨q, bb, ta⟩], s, by go_num, rfl, by omega, HRa2.out, HO.out, HB.out, HG, by omega, by simp; omega, by omega⟩
            case measure => simp [RowKit.intOf]; omega
    · have hie : i = l.length := by omega
      subst hie
      have hgo' := hgo.out
      rw [List.drop_of_length_le (Nat.le_refl _)] at hgo'
      simp only [splitF] at hgo'
      subst hgo'
      clear hgo HRR
      obtain ⟨AA, ca, hva⟩ : ∃ AA ca, u14 = .slice AA a.length ca := by
        obtain ⟨A, c, h⟩ := Kd.R_slice HRa.out
        exact ⟨A, c, h⟩
      obtain ⟨AB, cb, hvb⟩ : ∃ AB cb, u15 = .slice AB b.length cb := by
        obtain ⟨A, c, h⟩ := Kd.R_slice HRb.out
        exact ⟨A, c, h⟩
      subst hva hvb
      go_wp2
      obtain ⟨hh, hhl, hrh, hfh, hE, hn, hl⟩ := HALL.out
      have hwW : w.heap.size ≤ W.heap.size := HS.out.below.size
      exact hf13 w wr rb fb hb n s AA AB AE ca cb cE at_ pad a b l (by omega) (HS.out.step HB1.out) (heap_keeps HB1.out hh) hhl hrh hfh (Kd.R_lower (Kd.R_mono HRa.out (fun _ _ => trivial)) hwW) (by omega) (Kd.R_lower HRb.out hwW) (by omega) hE hn
end Go.Proofs.Ytkgdpgoianimjaa.Print
