/- Package number's Parse: its contract. -/
import Derived.Test.YtgobcejjefgkcaaDoorNh
namespace Go.Proofs.YtgobcejjefgkcaaDoor.Print
open Go.RowKit Go.Proofs.YtgobcejjefgkcaaDoorW.PrintWords Go.Proofs.YtgobcejjefgkcaaDoorW.PrintLast Go.Proofs.YtgobcejjefgkcaaDoorW.PrintMore
set_option linter.unusedVariables false
set_option linter.unusedSimpArgs false

/-- The pattern that a reader holds. -/
def patR (r : RD) : Array Value := #[.slice none 0 0, .slice none 0 0, .bool false, .slice none 0 0, .slice none 0 0, .int .i64 r.mi, .int .i64 r.ma, .int .i64 r.mf, .int .i64 r.xf, .int .i64 r.ms, .int .i64 r.xs, .int .i64 r.pr, .int .i64 r.se, .string r.inc, .bool r.ps, .int .i64 r.me, .bool r.pp, .int .i64 0, .int .i32 0, .int .i64 0]
def rd0 : RD := ⟨⟨#[]⟩, ⟨#[]⟩, ⟨#[]⟩, false, false, 0, 0, 0, 0, 0, 0, 0, 0, ⟨#[]⟩, false, 0, false⟩
theorem pat_cells {w : World} {b : Nat} {r : RD} (h : w.heap[b]? = some (.cells (patR r) 25 (0, 0))) :
    w.cell? ⟨b, 0, none⟩ = some (.slice none 0 0) ∧ w.cell? ⟨b, 1, none⟩ = some (.slice none 0 0) ∧ w.cell? ⟨b, 2, none⟩ = some (.bool false) ∧ w.cell? ⟨b, 3, none⟩ = some (.slice none 0 0) ∧ w.cell? ⟨b, 4, none⟩ = some (.slice none 0 0) ∧ w.cell? ⟨b, 5, none⟩ = some (.int .i64 r.mi) ∧ w.cell? ⟨b, 6, none⟩ = some (.int .i64 r.ma) ∧ w.cell? ⟨b, 7, none⟩ = some (.int .i64 r.mf) ∧ w.cell? ⟨b, 8, none⟩ = some (.int .i64 r.xf) ∧ w.cell? ⟨b, 9, none⟩ = some (.int .i64 r.ms) ∧
    w.cell? ⟨b, 10, none⟩ = some (.int .i64 r.xs) ∧ w.cell? ⟨b, 11, none⟩ = some (.int .i64 r.pr) ∧ w.cell? ⟨b, 12, none⟩ = some (.int .i64 r.se) ∧ w.cell? ⟨b, 13, none⟩ = some (.string r.inc) ∧ w.cell? ⟨b, 14, none⟩ = some (.bool r.ps) ∧ w.cell? ⟨b, 15, none⟩ = some (.int .i64 r.me) ∧ w.cell? ⟨b, 16, none⟩ = some (.bool r.pp) ∧ w.cell? ⟨b, 17, none⟩ = some (.int .i64 0) ∧ w.cell? ⟨b, 18, none⟩ = some (.int .i32 0) ∧ w.cell? ⟨b, 19, none⟩ = some (.int .i64 0) :=
  ⟨blk_cell h 0, blk_cell h 1, blk_cell h 2, blk_cell h 3, blk_cell h 4, blk_cell h 5, blk_cell h 6, blk_cell h 7, blk_cell h 8, blk_cell h 9, blk_cell h 10, blk_cell h 11, blk_cell h 12, blk_cell h 13, blk_cell h 14, blk_cell h 15, blk_cell h 16, blk_cell h 17, blk_cell h 18, blk_cell h 19⟩
theorem rd_pcells {w : World} {b : Nat} {r : RD} (h : IsRd w b r) :
    w.cell? ⟨b, 5, none⟩ = some (.slice none 0 0) ∧ w.cell? ⟨b, 6, none⟩ = some (.slice none 0 0) ∧ w.cell? ⟨b, 7, none⟩ = some (.bool false) ∧ w.cell? ⟨b, 8, none⟩ = some (.slice none 0 0) ∧ w.cell? ⟨b, 9, none⟩ = some (.slice none 0 0) ∧ w.cell? ⟨b, 10, none⟩ = some (.int .i64 r.mi) ∧ w.cell? ⟨b, 11, none⟩ = some (.int .i64 r.ma) ∧ w.cell? ⟨b, 12, none⟩ = some (.int .i64 r.mf) ∧ w.cell? ⟨b, 13, none⟩ = some (.int .i64 r.xf) ∧ w.cell? ⟨b, 14, none⟩ = some (.int .i64 r.ms) ∧
    w.cell? ⟨b, 15, none⟩ = some (.int .i64 r.xs) ∧ w.cell? ⟨b, 16, none⟩ = some (.int .i64 r.pr) ∧ w.cell? ⟨b, 17, none⟩ = some (.int .i64 r.se) ∧ w.cell? ⟨b, 18, none⟩ = some (.string r.inc) ∧ w.cell? ⟨b, 19, none⟩ = some (.bool r.ps) ∧ w.cell? ⟨b, 20, none⟩ = some (.int .i64 r.me) ∧ w.cell? ⟨b, 21, none⟩ = some (.bool r.pp) ∧ w.cell? ⟨b, 22, none⟩ = some (.int .i64 0) ∧ w.cell? ⟨b, 23, none⟩ = some (.int .i32 0) ∧ w.cell? ⟨b, 24, none⟩ = some (.int .i64 0) :=
  ⟨blk_cell h 5, blk_cell h 6, blk_cell h 7, blk_cell h 8, blk_cell h 9, blk_cell h 10, blk_cell h 11, blk_cell h 12, blk_cell h 13, blk_cell h 14, blk_cell h 15, blk_cell h 16, blk_cell h 17, blk_cell h 18, blk_cell h 19, blk_cell h 20, blk_cell h 21, blk_cell h 22, blk_cell h 23, blk_cell h 24⟩
/-- A whole pattern is written. -/
theorem store_pat {W : World} {b : Nat} (x : RD) (h : W.heap[b]? = some (.cells (patR rd0) 25 (0, 0))) :
    ((((((((((((((((((((W.setCell ⟨b, 0, none⟩ (.slice none 0 0)).setCell ⟨b, 1, none⟩ (.slice none 0 0)).setCell ⟨b, 2, none⟩ (.bool false)).setCell ⟨b, 3, none⟩ (.slice none 0 0)).setCell ⟨b, 4, none⟩ (.slice none 0 0)).setCell ⟨b, 5, none⟩ (.int .i64 x.mi)).setCell ⟨b, 6, none⟩ (.int .i64 x.ma)).setCell ⟨b, 7, none⟩ (.int .i64 x.mf)).setCell ⟨b, 8, none⟩ (.int .i64 x.xf)).setCell ⟨b, 9, none⟩ (.int .i64 x.ms)).setCell ⟨b, 10, none⟩ (.int .i64 x.xs)).setCell ⟨b, 11, none⟩ (.int .i64 x.pr)).setCell ⟨b, 12, none⟩ (.int .i64 x.se)).setCell ⟨b, 13, none⟩ (.string x.inc)).setCell ⟨b, 14, none⟩ (.bool x.ps)).setCell ⟨b, 15, none⟩ (.int .i64 x.me)).setCell ⟨b, 16, none⟩ (.bool x.pp)).setCell ⟨b, 17, none⟩ (.int .i64 0)).setCell ⟨b, 18, none⟩ (.int .i32 0)).setCell ⟨b, 19, none⟩ (.int .i64 0)).heap[b]? = some (.cells (patR x) 25 (0, 0)) := by
  have e := blk_set (blk_set (blk_set (blk_set (blk_set (blk_set (blk_set (blk_set (blk_set (blk_set (blk_set (blk_set (blk_set (blk_set (blk_set (blk_set (blk_set (blk_set (blk_set (blk_set h 0 (.slice none 0 0)) 1 (.slice none 0 0)) 2 (.bool false)) 3 (.slice none 0 0)) 4 (.slice none 0 0)) 5 (.int .i64 x.mi)) 6 (.int .i64 x.ma)) 7 (.int .i64 x.mf)) 8 (.int .i64 x.xf)) 9 (.int .i64 x.ms)) 10 (.int .i64 x.xs)) 11 (.int .i64 x.pr)) 12 (.int .i64 x.se)) 13 (.string x.inc)) 14 (.bool x.ps)) 15 (.int .i64 x.me)) 16 (.bool x.pp)) 17 (.int .i64 0)) 18 (.int .i32 0)) 19 (.int .i64 0)
  rw [e]
  simp [patR]
theorem below_pat {W w : World} {b : Nat} (x : RD) (hb : Below w.heap.size w W) (h : w.heap.size ≤ b) :
    Below w.heap.size w ((((((((((((((((((((W.setCell ⟨b, 0, none⟩ (.slice none 0 0)).setCell ⟨b, 1, none⟩ (.slice none 0 0)).setCell ⟨b, 2, none⟩ (.bool false)).setCell ⟨b, 3, none⟩ (.slice none 0 0)).setCell ⟨b, 4, none⟩ (.slice none 0 0)).setCell ⟨b, 5, none⟩ (.int .i64 x.mi)).setCell ⟨b, 6, none⟩ (.int .i64 x.ma)).setCell ⟨b, 7, none⟩ (.int .i64 x.mf)).setCell ⟨b, 8, none⟩ (.int .i64 x.xf)).setCell ⟨b, 9, none⟩ (.int .i64 x.ms)).setCell ⟨b, 10, none⟩ (.int .i64 x.xs)).setCell ⟨b, 11, none⟩ (.int .i64 x.pr)).setCell ⟨b, 12, none⟩ (.int .i64 x.se)).setCell ⟨b, 13, none⟩ (.string x.inc)).setCell ⟨b, 14, none⟩ (.bool x.ps)).setCell ⟨b, 15, none⟩ (.int .i64 x.me)).setCell ⟨b, 16, none⟩ (.bool x.pp)).setCell ⟨b, 17, none⟩ (.int .i64 0)).setCell ⟨b, 18, none⟩ (.int .i32 0)).setCell ⟨b, 19, none⟩ (.int .i64 0)) :=
  below_set (below_set (below_set (below_set (below_set (below_set (below_set (below_set (below_set (below_set (below_set (below_set (below_set (below_set (below_set (below_set (below_set (below_set (below_set (below_set hb h) h) h) h) h) h) h) h) h) h) h) h) h) h) h) h) h) h) h) h
theorem results_cell_tmp {P : Program} {fn : Func} {p u : Tmp} {ty : TypeId} (h : fn.results = #[.cell p ty, .tmp u]) (tmps : Array Value) (w : World) (g : Nat) (t : TypeId) (cs : Array Value) (fr : Nat × Nat) (d : TypeDesc)
    (hp : tmps.getD p undef = .pointer (some ⟨g, 0, none⟩)) (hg : w.heap[g]? = some (.cells cs t fr))
    (hu : P.underlying ty = some d) (hd : (match d with | .struct _ | .array _ _ => true | _ => false) = true) (hi : (P.info? ty).map (·.size) = some cs.size) :
    (results fn tmps).run P w = .ok (.tuple #[.agg cs, tmps.getD u undef]) w := by
  have hp' : tmps[p]?.getD undef = .pointer (some ⟨g, 0, none⟩) := by simpa using hp
  simp [results, h, hp', asAddr, run_loadVar_row w g t ty cs fr d hg hu hd hi]
/-- What the reader says behind each step. -/
def r1 (s : ByteArray) : RD := { rd0 with ex := mkB (N.expN (N.L s)), sc := N.sciN (N.L s) }
def r2 (s : ByteArray) : RD := expR (r1 s)
def r3 (s : ByteArray) : RD := partsR (r2 s) (mkB (N.bodyN (N.L s)))
def r4 (s : ByteArray) : RD := groupsR (r3 s)
def r5 (s : ByteArray) : RD := countsR (r4 s)
def patN (p : N.NP) : Array Value := #[.slice none 0 0, .slice none 0 0, .bool false, .slice none 0 0, .slice none 0 0, .int .i64 p.minInt, .int .i64 p.maxInt, .int .i64 p.minFrac, .int .i64 p.maxFrac, .int .i64 p.minSig, .int .i64 p.maxSig, .int .i64 p.prim, .int .i64 p.sec, .string (mkB p.inc), .bool p.sci, .int .i64 p.minExp, .bool p.plus, .int .i64 0, .int .i32 0, .int .i64 0]
theorem prim_if (l : List (List UInt8)) : (if 1 < l.length then (N.primN l : Int) else 0) = (N.primN l : Int) ∧ (if 1 < l.length then (N.secN l : Int) else 0) = (N.secN l : Int) := by
  by_cases h : 1 < l.length
  · rw [if_pos h, if_pos h]; exact ⟨rfl, rfl⟩
  · rw [if_neg h, if_neg h]
    unfold N.secN N.primN
    rw [if_neg h, if_neg (by omega)]
    exact ⟨rfl, rfl⟩
theorem r_facts (s : ByteArray) : N.L (r3 s).wh = N.wholeN (N.L s) ∧ N.L (r3 s).fr = N.fracN (N.L s) ∧ N.L (r4 s).wh = N.plN (N.L s) ∧ N.L (r4 s).fr = N.fracN (N.L s) ∧ (r4 s).pt = N.pointN (N.L s) ∧ (r4 s).sc = N.sciN (N.L s) ∧ (r5 s).wh = (r4 s).wh ∧ (r2 s).sc = N.sciN (N.L s) := by
  have e2 : (r2 s).sc = N.sciN (N.L s) ∧ (r2 s).wh = ⟨#[]⟩ := by
    unfold r2 expR r1
    simp only
    split <;> exact ⟨rfl, rfl⟩
  have e3 : N.L (r3 s).wh = N.wholeN (N.L s) ∧ N.L (r3 s).fr = N.fracN (N.L s) ∧ (r3 s).pt = N.pointN (N.L s) ∧ (r3 s).sc = N.sciN (N.L s) := by
    unfold r3 partsR
    simp only [L_mkB]
    exact ⟨rfl, rfl, rfl, e2.1⟩
  have e4 : N.L (r4 s).wh = N.plN (N.L s) ∧ N.L (r4 s).fr = N.fracN (N.L s) ∧ (r4 s).pt = N.pointN (N.L s) ∧ (r4 s).sc = N.sciN (N.L s) := by
    unfold r4 groupsR
    simp only [L_mkB]
    refine ⟨?_, e3.2.1, e3.2.2.1, e3.2.2.2⟩
    rw [e3.1]; rfl
  have e5 : (r5 s).wh = (r4 s).wh := by
    unfold r5 countsR
    split
    · rfl
    · rfl
  exact ⟨e3.1, e3.2.1, e4.1, e4.2.1, e4.2.2.1, e4.2.2.2, e5, e2.1⟩
theorem r5_pat (s : ByteArray) : patR (r5 s) = patN (N.sayN (N.L s)) := by
  obtain ⟨f1, f2, f3, f4, f5, f6, f7, f8⟩ := r_facts s
  have hpr : (r4 s).pr = (N.primN (N.splitC 44 (N.wholeN (N.L s))) : Int) ∧ (r4 s).se = (N.secN (N.splitC 44 (N.wholeN (N.L s))) : Int) := by
    have h0 : (r3 s).pr = 0 ∧ (r3 s).se = 0 := by
      unfold r3 partsR r2 expR r1
      simp only
      split <;> exact ⟨rfl, rfl⟩
    unfold r4 groupsR
    simp only
    rw [f1, h0.1, h0.2]
    exact prim_if _
  have hex : (r4 s).ps = N.sciN (N.L s) ∧ (r4 s).me = ((if N.sciN (N.L s) = true then N.sp N.is0 (N.expX (N.expN (N.L s))) else 0 : Nat) : Int) ∧ (r4 s).pp = (N.sciN (N.L s) && N.isPlus (N.expN (N.L s))) := by
    unfold r4 groupsR r3 partsR r2 expR r1
    simp only
    cases hs : N.sciN (N.L s) with
    | true => simp [L_mkB]
    | false => simp [rd0]
  have hz : (r4 s).mi = 0 ∧ (r4 s).ma = 0 ∧ (r4 s).mf = 0 ∧ (r4 s).xf = 0 ∧ (r4 s).ms = 0 ∧ (r4 s).xs = 0 ∧ (r4 s).inc = ⟨#[]⟩ := by
    unfold r4 groupsR r3 partsR r2 expR r1
    simp only
    split <;> exact ⟨rfl, rfl, rfl, rfl, rfl, rfl, rfl⟩
  obtain ⟨z1, z2, z3, z4, z5, z6, z7⟩ := hz
  unfold r5 countsR
  unfold N.sayN N.fieldsN
  rw [f3, f4]
  by_cases h : (64 : UInt8) ∈ N.plN (N.L s) ++ N.fracN (N.L s)
  · rw [if_pos h, if_pos h]
    unfold sigR patR patN
    simp only
    rw [f3, hpr.1, hpr.2, hex.1, hex.2.1, hex.2.2, z1, z2, z3, z4, z7]
    rfl
  · rw [if_neg h, if_neg h]
    unfold patR patN
    simp only
    rw [hpr.1, hpr.2, hex.1, hex.2.1, hex.2.2, z2, z5, z6, f6]
    have w1 : ((r4 s).wh.size : Int) = ((N.plN (N.L s)).length : Int) := by rw [← f3, N.L_len]
    have w2 : ((r4 s).fr.size : Int) = ((N.fracN (N.L s)).length : Int) := by rw [← f4, N.L_len]
    rw [w1, w2]
    cases N.sciN (N.L s) <;> rfl
theorem r5_mixed (s : ByteArray) : mixedZ (r5 s) = N.mixedE (N.sayN (N.L s)) (N.plN (N.L s)) := by
  have h := r5_pat s
  have g := fun i : Nat => congrArg (fun a : Array Value => a.getD i undef) h
  have e5 := g 5; have e6 := g 6; have e8 := g 8; have e9 := g 9; have e10 := g 10; have e11 := g 11; have e12 := g 12; have e13 := g 13
  simp [patR, patN] at e5 e6 e8 e9 e10 e11 e12 e13
  obtain ⟨f1, f2, f3, f4, f5, f6, f7, f8⟩ := r_facts s
  have hsc : (r5 s).sc = (N.sayN (N.L s)).sci := by
    have a1 : (r5 s).sc = (r4 s).sc := by unfold r5 countsR; split <;> rfl
    have a2 : (N.sayN (N.L s)).sci = N.sciN (N.L s) := by unfold N.sayN N.fieldsN; split <;> rfl
    rw [a1, a2, f6]
  unfold mixedZ N.mixedE
  rw [hsc, f7, f3, e5, e6, e8, e9, e10, e11, e12, e13, mkB_size]
  have c1 : ((N.sayN (N.L s)).sci = true ∧ (0 < ((N.sayN (N.L s)).prim : Int) ∨ 0 < ((N.sayN (N.L s)).minSig : Int) ∧ (N.plN (N.L s)).head? = some 35)) ↔ ((N.sayN (N.L s)).sci = true ∧ (0 < (N.sayN (N.L s)).prim ∨ 0 < (N.sayN (N.L s)).minSig ∧ (N.plN (N.L s)).head? = some 35)) := by
    have k1 : (0 < ((N.sayN (N.L s)).prim : Int)) ↔ 0 < (N.sayN (N.L s)).prim := by omega
    have k2 : (0 < ((N.sayN (N.L s)).minSig : Int)) ↔ 0 < (N.sayN (N.L s)).minSig := by omega
    rw [k1, k2]
  have c2 : (40 < max ((N.sayN (N.L s)).minInt : Int) (max ((N.sayN (N.L s)).maxInt : Int) (max ((N.sayN (N.L s)).maxFrac : Int) (max ((N.sayN (N.L s)).maxSig : Int) (max ((N.sayN (N.L s)).prim : Int) (max ((N.sayN (N.L s)).sec : Int) ((N.sayN (N.L s)).inc.length : Int))))))) ↔ (40 < max (N.sayN (N.L s)).minInt (max (N.sayN (N.L s)).maxInt (max (N.sayN (N.L s)).maxFrac (max (N.sayN (N.L s)).maxSig (max (N.sayN (N.L s)).prim (max (N.sayN (N.L s)).sec (N.sayN (N.L s)).inc.length)))))) := by omega
  simp only [c1, c2]

/-! ### the walk -/
theorem part_of (s : ByteArray) : (mkB (N.bodyN (N.L s))).size ≤ s.size ∧ (mkB (N.expN (N.L s))).size ≤ s.size := by
  rw [mkB_size, mkB_size, ← N.L_len]
  exact cutC_le 69 (N.L s)
theorem r3_size (s : ByteArray) : (r3 s).wh.size ≤ s.size ∧ (r3 s).fr.size ≤ s.size := by
  obtain ⟨f1, f2, _⟩ := r_facts s
  have h1 := cutC_le 46 (N.bodyN (N.L s))
  have h2 := cutC_le 69 (N.L s)
  rw [← N.L_len (r3 s).wh, ← N.L_len (r3 s).fr, ← N.L_len s, f1, f2]
  exact ⟨Nat.le_trans h1.1 h2.1, Nat.le_trans h1.2 h2.1⟩
theorem r4_size (s : ByteArray) : (r4 s).wh.size ≤ s.size ∧ (r4 s).fr.size ≤ s.size := by
  obtain ⟨f1, f2, f3, f4, _⟩ := r_facts s
  have h := r3_size s
  rw [← N.L_len (r4 s).wh, f3, ← N.L_len (r4 s).fr, f4, ← f2, N.L_len]
  refine ⟨?_, h.2⟩
  have h1 := N.pl_len (N.L s)
  have h2 := h.1
  rw [← N.L_len, f1] at h2
  omega
theorem r4_low (s : ByteArray) (h : N.partsE (N.bodyN (N.L s)) = 0) : ∀ c ∈ N.L (r4 s).wh, c.toNat < 128 := by
  obtain ⟨f1, f2, f3, f4, _⟩ := r_facts s
  intro c hc
  rw [f3] at hc
  unfold N.plN N.plainN at hc
  rw [N.splitC_flat] at hc
  have hw : c ∈ N.wholeN (N.L s) := (List.mem_filter.1 hc).1
  have hb : c ∈ N.bodyN (N.L s) := by
    have := (N.cutC_is 46 (N.bodyN (N.L s))).2
    unfold N.wholeN at hw
    split at this
    · rw [this]; exact List.mem_append_left _ hw
    · rw [this.1]; exact hw
  unfold N.partsE at h
  split at h
  · contradiction
  rename_i hn
  simp only [not_or, Bool.not_eq_true] at hn
  have := (List.any_eq_false.1 hn.1) c hb
  exact N.odd_low c (by simpa using this)
theorem r5_pos (s : ByteArray) : 0 < (r5 s).ms → 0 < (r5 s).wh.size := by
  obtain ⟨f1, f2, f3, f4, f5, f6, f7, _⟩ := r_facts s
  intro h
  rw [f7]
  have hz : (r4 s).ms = 0 := by
    unfold r4 groupsR r3 partsR r2 expR r1
    simp only
    split <;> rfl
  unfold r5 countsR at h
  split at h
  · unfold sigR at h
    simp only at h
    have h1 := N.sp_le N.isA ((N.L (r4 s).wh).dropWhile N.isH)
    have h2 := N.dw_len_le N.isH (N.L (r4 s).wh)
    rw [N.L_len] at h2
    omega
  · simp only at h
    rw [hz] at h
    omega
theorem idx_fn3 (c i bk : Nat) (W : World) (hi : i < 3) :
    (Instr.indexAt 44 (.slice (some ⟨bk, 0, none⟩) 3 c) (.int .i64 (i : Int))).run Tryd.prog W = .ok (.pointer (some ⟨bk, i, none⟩)) W := by
  have ht : Tryd.prog.underlying 44 = some (.slice (Tryd.prog.elem 44)) := by kernel_rfl
  have he : Tryd.prog.elem 44 = 43 := by kernel_rfl
  have hz : ∀ w, (Go.sizeOf 43).run Tryd.prog w = .ok 1 w := fun w => by kernel_rfl
  rw [run_indexAt_slice _ _ _ _ _ _ _ ht, he, if_pos ⟨by omega, by omega⟩, hz]
  simp [Result.andThen, Addr.add_lit]
theorem set_exp {W : World} {b : Nat} {r : RD} (h : IsRd W b r) (x : ByteArray) (p : Bool) : IsRd ((W.setCell ⟨b, 2, none⟩ (.string x)).setCell ⟨b, 4, none⟩ (.bool p)) b { r with ex := x, sc := p } := by
  rw [IsRd, blk_set (blk_set h 2 _) 4 _]
  simp [rdV]
end Go.Proofs.YtgobcejjefgkcaaDoor.Print
