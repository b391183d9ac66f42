/- Package token's Scan, the plain side: what the scanner gathers. -/
import Derived.Test.YtcenacecegleeaaDoorFX
import Derived.Test.YtcenacecegleeaaDoorFX
import Derived.Test.YtcenacecegleeaaDoorFZ
import Derived.Test.YtcenacecegleeaaDoorFZ
import Derived.Test.YtcenacecegleeaaDoorFU
namespace Go.Proofs.YtcenacecegleeaaDoor.Print
open Go.RowKit Go.Proofs.YtcenacecegleeaaDoor.Utf Go.Proofs.YtcenacecegleeaaDoorW.PrintWords Go.Proofs.YtcenacecegleeaaDoorW.PrintLast Go.Proofs.YtcenacecegleeaaDoorW.PrintMore
set_option linter.unusedVariables false
set_option linter.unusedSimpArgs false

/-- How many bytes a code point takes. -/
def lenE (r : Int) : Int := ((Lib.encodeRune r).length : Int)
/-- The pieces of what is left, and where quotes stand open behind it. -/
def scanGo : Nat → List Int → Int → Int → List S36 → List S36 × Int
  | 0, _, _, op, ps => (ps, op)
  | _ + 1, [], _, op, ps => (ps, op)
  | f + 1, r :: m, at_, op, ps =>
    if r = 39 then
      (match m with
       | [] => scanGo f [] (at_ + 1) (if op < 0 then at_ else -1) ps
       | r2 :: m2 => if r2 = 39 then scanGo f m2 (at_ + 2) op (ps ++ [⟨39, true, at_⟩]) else scanGo f (r2 :: m2) (at_ + 1) (if op < 0 then at_ else -1) ps)
    else scanGo f m (at_ + lenE r) op (ps ++ [⟨r, !decide (op < 0), at_⟩])
/-- What Scan answers: the tokens, or what is wrong and where. -/
def scanR (s : ByteArray) : List S36 × Int × Int :=
  if badFrom s s.size 0 ≥ 0 then ([], 2, badFrom s s.size 0) else
    if (scanGo s.size (runesFrom s s.size 0) 0 (-1) []).2 ≥ 0 then ([], 3, (scanGo s.size (runesFrom s s.size 0) 0 (-1) []).2) else
      if (scanGo s.size (runesFrom s s.size 0) 0 (-1) []).1.length > 400 then ([], 8, 0) else ((scanGo s.size (runesFrom s s.size 0) 0 (-1) []).1, 0, 0)
def token_Scan.f (s : ByteArray) : Option (List S36 × Int × Int) := if s.size ≤ 1000000000 then some (scanR s) else none
end Go.Proofs.YtcenacecegleeaaDoor.Print
/- Package token's scanner: one step, whichever it is. -/
namespace Go.Proofs.YtcenacecegleeaaDoor.Print
open Go.RowKit Go.Proofs.YtcenacecegleeaaDoor.Utf Go.Proofs.YtcenacecegleeaaDoorW.PrintWords Go.Proofs.YtcenacecegleeaaDoorW.PrintLast Go.Proofs.YtcenacecegleeaaDoorW.PrintMore
set_option linter.unusedVariables false
set_option linter.unusedSimpArgs false

theorem token_size_val (r : Int) (h : Lib.validRune r = true) : token_size.f r = some (lenE r) := by
  unfold token_size.f utf_Text.f lenE
  rw [if_pos (by simp), if_pos (by simpa using h)]
  simp only [Option.bind_some]
  congr 1
  show ((encAll [r]).length : Int) = _
  simp [encAll]
theorem lenE_range (r : Int) : 1 ≤ lenE r ∧ lenE r ≤ 4 := by
  have := enc_len r
  unfold lenE
  omega
/-- What is known of the scanner's world, ahead of each step. w: the world at Scan's entry; B: the scanner's block; G: the blocks below it that the runes may lie in. -/
def ScanRel (w wr : World) (B G : Nat) (m : List Int) (at_ op : Int) (ps : List S36) : Prop :=
  ∃ (A : Option Addr) (c j : Nat) (pv : Value),
    wr.heap[B]? = some (.cells #[.slice A m.length c, .int .i64 at_, .int .i64 op, pv] 56) ∧ m.length ≤ c ∧ wr.heap[w.heap.size]? = some (.cells #[.int .i64 0, .int .i64 0] 27) ∧
    (m ≠ [] → ∃ g, A = some ⟨g, j, none⟩ ∧ w.heap.size ≤ g ∧ g < B ∧ some g ≠ pv.ownBlock ∧ ∀ (i : Nat) x, m[i]? = some x → wr.cell? ⟨g, j + i, none⟩ = some (.int .i32 x)) ∧
    wr.ownsRow w.heap.size 58 1 pv ps.length (ps.map pieceV) ∧ some B ≠ pv.ownBlock ∧ some w.heap.size ≠ pv.ownBlock ∧ Below w.heap.size w wr ∧ (∀ k, pv.ownBlock = some k → w.heap.size ≤ k)
/-- A cell of a block that stayed. -/
theorem cell_same {w W : World} {g : Nat} (h : ∀ o, w.heap[g]? = some o → W.heap[g]? = some o) {i : Nat} {v : Value} (hc : w.cell? ⟨g, i, none⟩ = some v) : W.cell? ⟨g, i, none⟩ = some v := by
  have hl := World.block_lt_of_cell? w _ hc
  have e : W.heap[g]? = w.heap[g]? := by
    obtain ⟨o, ho⟩ : ∃ o, w.heap[g]? = some o := ⟨_, Array.getElem?_eq_getElem hl⟩
    rw [ho, h o ho]
  unfold World.cell? at hc ⊢
  simp only [e]
  exact hc
theorem rel_after {w wr W' : World} {B G c j k : Nat} {A : Option Addr} {pv : Value} {m : List Int} {ps' : List S36} {at' op' : Int} (hk : k ≤ m.length) (hmc : m.length ≤ c) (hF : wr.heap[w.heap.size]? = some (.cells #[.int .i64 0, .int .i64 0] 27)) (hFB : w.heap.size ≠ B)
    (hFp : some w.heap.size ≠ pv.ownBlock) (hlB : B < wr.heap.size) (hpb : ∀ k, pv.ownBlock = some k → w.heap.size ≤ k)
    (hA : m ≠ [] → ∃ g, A = some ⟨g, j, none⟩ ∧ w.heap.size ≤ g ∧ g < B ∧ some g ≠ pv.ownBlock ∧ ∀ (i : Nat) x, m[i]? = some x → wr.cell? ⟨g, j + i, none⟩ = some (.int .i32 x))
    (hP : StepPost w wr W' B pv ps' (cutA A c k 1) (m.length - k) (c - k) at' op') : ScanRel w W' B G (m.drop k) at' op' ps' := by
  obtain ⟨pv', h1, h2, h3, h4, h5, h6⟩ := hP
  have hFl := blk_lt hF
  refine ⟨cutA A c k 1, c - k, j + k, pv', by rw [List.length_drop]; exact h1, by rw [List.length_drop]; omega, h5 _ _ hF hFB hFp, fun hne => ?_, h2, h4, ?_, h3, ?_⟩
  · have hkl : k < m.length := by
      rcases Nat.lt_or_ge k m.length with h | h
      · exact h
      · exact absurd (List.drop_eq_nil_of_le h) hne
    obtain ⟨g, hAg, hg1, hg2, hg3, hg4⟩ := hA (fun e => by rw [e] at hkl; simp at hkl)
    refine ⟨g, ?_, hg1, hg2, ?_, fun i x hx => ?_⟩
    · unfold cutA
      rw [if_neg (by omega), hAg]
      simp [Addr.add_lit]
    · rcases h6 with h6 | ⟨b, h6, hb⟩
      · rw [h6]; exact hg3
      · rw [h6]; intro e; have := Option.some.inj e; omega
    · rw [List.getElem?_drop] at hx
      exact cell_same (fun o ho => h5 g o ho (by omega) hg3) (by rw [Nat.add_assoc]; exact hg4 (k + i) x hx)
  · rcases h6 with h6 | ⟨b, h6, hb⟩
    · rw [h6]; exact hFp
    · rw [h6]; intro e; have := Option.some.inj e; omega
  · intro k' hk'
    rcases h6 with h6 | ⟨b, h6, hb⟩
    · exact hpb k' (by rw [← h6]; exact hk')
    · rw [h6] at hk'
      have := Option.some.inj hk'
      omega
end Go.Proofs.YtcenacecegleeaaDoor.Print
/- Package token's scanner: one step, whichever it is, told by the plain function. -/
namespace Go.Proofs.YtcenacecegleeaaDoor.Print
open Go.RowKit Go.Proofs.YtcenacecegleeaaDoor.Utf Go.Proofs.YtcenacecegleeaaDoorW.PrintWords Go.Proofs.YtcenacecegleeaaDoorW.PrintLast Go.Proofs.YtcenacecegleeaaDoorW.PrintMore
set_option linter.unusedVariables false
set_option linter.unusedSimpArgs false

theorem wr64 {x : Int} (h0 : 0 ≤ x) (h1 : x ≤ 1000000000000000) : wrap64 x = x := by unfold wrap64; omega
theorem lenE_39 : lenE 39 = 1 := by decide +kernel
theorem next_step (w wr : World) (B G f : Nat) (r : Int) (m' : List Int) (at_ op : Int) (ps : List S36) (hR : ScanRel w wr B G (r :: m') at_ op ps) (hv : All (r :: m')) (hwB : w.heap.size < B) (hat : 0 ≤ at_ ∧ at_ ≤ 100000000000) (hpl : ps.length ≤ 1000000000) :
    ∃ m2 at2 op2 ps2, scanGo (f + 1) (r :: m') at_ op ps = scanGo f m2 at2 op2 ps2 ∧ m2.length < (r :: m').length ∧ All m2 ∧ 0 ≤ at2 ∧ at2 + 4 * (m2.length : Int) ≤ at_ + 4 * ((m'.length : Int) + 1) ∧ ps2.length + m2.length ≤ ps.length + (m'.length + 1) ∧
      Calls Tryd.prog 32 #[.pointer (some ⟨B, 0, none⟩)] wr fun e W' => e = .returned (.tuple #[]) ∧ ScanRel w W' B G m2 at2 op2 ps2 := by
  obtain ⟨A, c, j, pv, h1, h2, h3, h4, h5, h6, h7, h8, h9⟩ := hR
  have hvr := hv r (by simp)
  have hvm : All m' := fun x hx => hv x (by simp [hx])
  have hsz := token_size_val r hvr
  have hle := lenE_range r
  obtain ⟨g, hA, hg1, hg2, hg3, hg4⟩ := h4 (by simp)
  have hlB := blk_lt h1
  have hc := hg4 0 r rfl
  rw [Nat.add_zero] at hc
  have hml : 0 < (r :: m').length := by simp
  by_cases h39 : r = 39
  · have hr : (r == 39) = true := by rw [h39]; rfl
    have hl1 : lenE r = 1 := by rw [h39]; exact lenE_39
    rw [hl1] at hsz hle
    have alone : (decide (1 < (((r :: m').length : Nat) : Int)) = false ∨ (decide (1 < (((r :: m').length : Nat) : Int)) = true ∧ ∃ r2, wr.cell? ⟨g, j + 1, none⟩ = some (.int .i32 r2) ∧ (r2 == 39) = false)) →
        Calls Tryd.prog 32 #[.pointer (some ⟨B, 0, none⟩)] wr fun e W' => e = .returned (.tuple #[]) ∧ ScanRel w W' B G m' (at_ + 1) (if op < 0 then at_ else -1) ps := fun hh => by
      refine (next_alone (decide (op < 0)) B g j c A (r :: m') r at_ op ps pv w wr h1 hA hc hr rfl hml hh h5 h6 h9 1 (Lib.hid hsz) (wr64 (by omega) (by omega)) h8 (by omega)).mono fun e W' ⟨he, hP⟩ => ⟨he, ?_⟩
      have := rel_after (k := 1) (G := G) hml h2 h3 (by omega) h7 hlB h9 h4 hP
      simpa using this
    cases m' with
    | nil =>
      refine ⟨[], at_ + 1, (if op < 0 then at_ else -1), ps, by simp [scanGo, h39], by simp, fun x hx => (by cases hx), by omega, by simp, by simp, alone (Or.inl (decide_eq_false (by simp)))⟩
    | cons r2 m2 =>
      have hc2 := hg4 1 r2 rfl
      by_cases h392 : r2 = 39
      · refine ⟨m2, at_ + 2, op, ps ++ [⟨39, true, at_⟩], by simp [scanGo, h39, h392], by simp; omega, fun x hx => hvm x (by simp [hx]), by omega, by simp; omega, by simp; omega, ?_⟩
        refine (next_twice B g j c A (r :: r2 :: m2) r at_ op ps pv w wr h1 rfl hA hc hr (decide_eq_true (by simp; omega)) r2 hc2 (by rw [h392]; rfl) hml h5 h6 h9 (by omega) 1 (Lib.hid hsz) (wr64 (by omega) (by omega)) (wr64 (by omega) (by omega)) h8 (by omega)).mono fun e W' ⟨he, hP⟩ => ⟨he, ?_⟩
        rw [show at_ + 1 + 1 = at_ + 2 by omega] at hP
        have := rel_after (k := 2) (G := G) (by simp) h2 h3 (by omega) h7 hlB h9 h4 hP
        simpa using this
      · exact ⟨r2 :: m2, at_ + 1, (if op < 0 then at_ else -1), ps, by simp [scanGo, h39, h392], by simp, hvm, by omega, by simp; omega, by simp, alone (Or.inr ⟨decide_eq_true (by simp; omega), r2, hc2, beq_eq_false_iff_ne.2 h392⟩)⟩
  · have hr : (r == 39) = false := beq_eq_false_iff_ne.2 h39
    have hw := wr64 (x := at_ + lenE r) (by omega) (by omega)
    by_cases hop : op < 0
    · refine ⟨m', at_ + lenE r, op, ps ++ [⟨r, false, at_⟩], by simp [scanGo, h39, hop], by simp, hvm, by omega, by omega, by simp; omega, ?_⟩
      refine (next_plain B g j c A (r :: m') r at_ op ps pv w wr h1 rfl hA hc hr (decide_eq_true hop) hml h5 h6 h9 (by omega) (lenE r) (Lib.hid hsz) hw h8 (by omega)).mono fun e W' ⟨he, hP⟩ => ⟨he, ?_⟩
      have := rel_after (k := 1) (G := G) hml h2 h3 (by omega) h7 hlB h9 h4 hP
      simpa using this
    · refine ⟨m', at_ + lenE r, op, ps ++ [⟨r, true, at_⟩], by simp [scanGo, h39, hop], by simp, hvm, by omega, by omega, by simp; omega, ?_⟩
      refine (next_quoted B g j c A (r :: m') r at_ op ps pv w wr h1 rfl hA hc hr (decide_eq_false hop) hml h5 h6 h9 (by omega) (lenE r) (Lib.hid hsz) hw h8 (by omega)).mono fun e W' ⟨he, hP⟩ => ⟨he, ?_⟩
      have := rel_after (k := 1) (G := G) hml h2 h3 (by omega) h7 hlB h9 h4 hP
      simpa using this
end Go.Proofs.YtcenacecegleeaaDoor.Print
/- Package token's Scan: its contract (under way). -/
namespace Go.Proofs.YtcenacecegleeaaDoor.Print
open Go.RowKit Go.Proofs.YtcenacecegleeaaDoor.Utf Go.Proofs.YtcenacecegleeaaDoorW.PrintWords Go.Proofs.YtcenacecegleeaaDoorW.PrintLast Go.Proofs.YtcenacecegleeaaDoorW.PrintMore
set_option linter.unusedVariables false
set_option linter.unusedSimpArgs false

theorem results_tmp_row {P : Program} {fn : Func} {p u : Tmp} {ty : TypeId} (h : fn.results = #[.tmp u, .cell p ty]) (tmps : Array Value) (w : World) (g : Nat) (t : TypeId) (cs : Array Value) (fr : Nat × Nat) (d : TypeDesc)
    (hp : tmps.getD p undef = .pointer (some ⟨g, 0, none⟩)) (hg : w.heap[g]? = some (.cells cs t fr))
    (hu : P.underlying ty = some d) (hd : (match d with | .struct _ | .array _ _ => true | _ => false) = true) (hi : (P.info? ty).map (·.size) = some cs.size) :
    (results fn tmps).run P w = .ok (.tuple #[tmps.getD u undef, .agg cs]) w := by
  have hp' : tmps[p]?.getD undef = .pointer (some ⟨g, 0, none⟩) := by simpa using hp
  simp [results, h, hp', asAddr, run_loadVar_row w g t ty cs fr d hg hu hd hi]
theorem runesFrom_len (s : ByteArray) : ∀ (f p : Nat), (runesFrom s f p).length ≤ f
  | 0, p => by simp [runesFrom]
  | f + 1, p => by
    unfold runesFrom
    split
    · have := runesFrom_len s f (p + (Utf8.decode s p).2)
      simp only [List.length_cons]; omega
    · simp
/-- make([]Token, 0, n). -/
theorem made_tok (W : World) (n : Nat) (hn : n ≤ 400) : (Instr.makeSlice 22 (.int .i64 0) (.int .i64 ((n : Nat) : Int))).run Tryd.prog W = .ok (.slice (some ⟨W.heap.size, 0, none⟩) 0 n) (W.alloc (.cells (madeCells (Value.agg #[.int .i32 0, .bool false, .int .i64 0]).cells (n * 3)) 36)) := by
  obtain ⟨i0, hi0, hz0, hs0, hb0⟩ := info_parts (show (Tryd.prog.info? 36).map (fun i => (i.zero, i.size, i.bytes)) = some (some (.agg #[.int .i32 0, .bool false, .int .i64 0]), 3, 16) by kernel_rfl)
  have hr := run_make (P := Tryd.prog) W 22 36 i0 _ Tryd.underlying22 hi0 hz0 .i64 .i64 0 (n : Int) (by omega) (by omega) (by rw [hb0]; omega) (by omega)
  rw [hs0] at hr
  simpa using hr
theorem R_made0 {α : Type} (d : Kd α) (e : Nat) (W : World) (base n : Nat) (z : Array Value) (hz : z.size = d.sz) (hb : base ≤ W.heap.size) (hn : n ≤ maxLen) : d.R e (W.alloc (.cells (madeCells z (n * d.sz)) e)) base (fun _ => True) (.slice (some ⟨W.heap.size, 0, none⟩) 0 n) [] :=
  ⟨fun _ _ => trivial, [], ⟨by simp, .inr ⟨W.heap.size, n, _, rfl, hb, heap_alloc_new W _, Nat.zero_le _, hn, by rw [size_madeCells], by simp⟩⟩, Reps.none _ _⟩
theorem idx_pieces (n c i bk : Nat) (A : Option Addr) (W : World) (hA : A = some ⟨bk, 0, none⟩) (hi : i < n) :
    (Instr.indexAt 54 (.slice A n c) (.int .i64 (i : Int))).run Tryd.prog W = .ok (.pointer (some ⟨bk, i, none⟩)) W := by
  subst hA
  have ht : Tryd.prog.underlying 54 = some (.slice (Tryd.prog.elem 54)) := by kernel_rfl
  have he : Tryd.prog.elem 54 = 58 := by kernel_rfl
  have hz : ∀ w, (Go.sizeOf 58).run Tryd.prog w = .ok 1 w := fun w => by kernel_rfl
  rw [run_indexAt_slice _ _ _ _ _ _ _ ht, he, if_pos ⟨by omega, by omega⟩, hz]
  simp [Result.andThen, Addr.add_lit]
/-- A row of the call's own, behind a call that has touched nothing that stood. -/
theorem R_stays {α : Type} {d : Kd α} {e base : Nat} {W W' : World} {v : Value} {xs : List α} (h : d.R e W base (fun _ => True) v xs) (hb : Below W.heap.size W W') : d.R e W' base (fun _ => True) v xs :=
  Kd.R_mono (Kd.R_move (Kd.R_bound h) (fun k hk => hb.block k hk.2.2.1)) (fun _ _ => trivial)
/-- .. behind a store into a block that lies below. -/
theorem R_other {α : Type} {d : Kd α} {e base b : Nat} {W : World} {v : Value} {xs : List α} (h : d.R e W base (fun _ => True) v xs) (hb : b < base) (i : Nat) (u : Value) : d.R e (W.setCell ⟨b, i, none⟩ u) base (fun _ => True) v xs :=
  Kd.R_mono (Kd.R_move (Kd.R_bound h) (fun k hk => heap_setCell_other _ _ _ _ (by have := hk.2.1; show k ≠ b; omega))) (fun _ _ => trivial)
set_option maxHeartbeats 8000000 in
set_option maxRecDepth 1000000 in
theorem token_Scan.calls (s : ByteArray) (r1 : List S36) (r2 r3 : Int) (w : World) (hT : Tabs w) (h : token_Scan.f s = some (r1, r2, r3)) :
    Calls Tryd.prog 18 #[.string s] w fun e w' => ∃ v0_ : Value, e = .returned (.tuple #[v0_, .agg #[.int .i64 r2, .int .i64 r3]]) ∧ Kd.R k36 36 w' w.heap.size (fun _ => True) v0_ r1 ∧ Below w.heap.size w w' := by
  unfold token_Scan.f at h
  by_cases hlen : s.size ≤ 1000000000
  rotate_left
  · rw [if_neg hlen] at h; cases h
  rw [if_pos hlen] at h
  have hs := Option.some.inj h
  clear h
  unfold scanR at hs
  have hbf : utf_Bad.f s = some (badFrom s s.size 0) := by unfold utf_Bad.f; rw [if_pos (by omega)]
  obtain ⟨bd, hbd⟩ : ∃ bd, badFrom s s.size 0 = bd := ⟨_, rfl⟩
  rw [hbd] at hs hbf
  have HBF := Lib.hid hbf
  have HT := Lib.hid hT
  have HBD := Lib.hid hbd
  clear hbf hbd hT
  by_cases hb : bd ≥ 0
  · rw [if_pos hb] at hs
    have hb0 : decide (0 ≤ bd) = true := decide_eq_true hb
    obtain ⟨rfl, h2⟩ := Prod.mk.inj hs
    obtain ⟨rfl, rfl⟩ := Prod.mk.inj h2
    clear hs h2 hb
    go_enter Tryd.func18, Tryd.ntmps18
    go_wp2_with (go_at_call 30; refine (utf_Bad.calls s bd _ (Tabs_below HT.out ((Below.refl w.heap.size w).alloc (Nat.le_refl _) _)) HBF.out).mono ?_; rintro e W1 ⟨rfl, hb1⟩; have hlt : w.heap.size < W1.heap.size := (by have := hb1.size; simp at this; omega); have hbk : W1.heap[w.heap.size]? = some (.cells #[.int .i64 0, .int .i64 0] 27) := heap_keeps hb1 (heap_alloc_new _ _); have hc0 : W1.cell? ⟨w.heap.size, 0, none⟩ = some (.int .i64 0) := (cell_of_row W1 _ 0 _ _ _ hbk).trans rfl; have hc1 : W1.cell? ⟨w.heap.size, 1, none⟩ = some (.int .i64 0) := (cell_of_row W1 _ 1 _ _ _ hbk).trans rfl; have hf : ∀ j, W1.frozen? ⟨w.heap.size, j, none⟩ = false := fun j => frozen_of_row W1 _ j _ _ hbk)
    refine bodyPost_ret (results_tmp_row rfl _ _ w.heap.size 27 #[.int .i64 2, .int .i64 bd] (0, 0) _ rfl (blk_put (cs := #[.int .i64 2, .int .i64 0]) (blk_put hbk 0 (.int .i64 2) rfl) 1 (.int .i64 bd) rfl) rfl rfl (by kernel_rfl)) rfl ⟨_, rfl, Kd.R_nil _ _ _ _ _, ?_⟩
    exact below_set (below_set (((Below.refl _ w).alloc (Nat.le_refl _) _).trans (hb1.mono (by simp))) (Nat.le_refl _)) (Nat.le_refl _)
  · rw [if_neg hb] at hs
    have hb0 : decide (0 ≤ bd) = false := decide_eq_false hb
    obtain ⟨rr, hrr⟩ : ∃ rr, runesFrom s s.size 0 = rr := ⟨_, rfl⟩
    have hrf : utf_Runes.f s = some (rr, true) := by unfold utf_Runes.f; rw [if_pos (by omega), HBD.out, if_neg hb, hrr]
    rw [hrr] at hs
    have HS := Lib.hid hs
    have HRF := Lib.hid hrf
    have HRR := Lib.hid hrr
    have HALL : Hid (All rr) := Lib.hid (by rw [← hrr]; exact (runes_all s (by rw [HBD.out]; exact hb)).1)
    clear hs hrf hrr hb
    go_enter Tryd.func18, Tryd.ntmps18
    go_wp2_with (first
      | (go_at_call 30; (with_reducible refine (utf_Bad.calls s bd _ (Tabs_below HT.out ((Below.refl w.heap.size w).alloc (Nat.le_refl _) _)) HBF.out).mono ?_); rintro e W1 ⟨rfl, hb1⟩; have hbw1 : Below w.heap.size w W1 := ((Below.refl _ w).alloc (Nat.le_refl _) _).trans (hb1.mono (by simp)); have hT1 : Tabs W1 := Tabs_below HT.out hbw1; have hbk : W1.heap[w.heap.size]? = some (.cells #[.int .i64 0, .int .i64 0] 27) := heap_keeps hb1 (heap_alloc_new _ _))
      | (go_at_call 31; (with_reducible refine (utf_Runes.calls s rr true _ hT1 HRF.out).mono ?_); rintro e W2 ⟨rv, rfl, hrv, hb2⟩; obtain ⟨Ar, cr, rfl⟩ := Kd.R_slice hrv; have hbk2 := heap_keeps hb2 hbk; have hbw2 : Below w.heap.size w W2 := hbw1.trans (hb2.mono hbw1.size)))
    have hrl : rr.length ≤ s.size := by rw [← HRR.out]; exact runesFrom_len s s.size 0
    have hcells : rr ≠ [] → ∃ g, Ar = some ⟨g, 0, none⟩ ∧ w.heap.size ≤ g ∧ g < W2.heap.size ∧ ∀ (i : Nat) x, rr[i]? = some x → W2.cell? ⟨g, i, none⟩ = some (.int .i32 x) := fun hne => by
      obtain ⟨g, cap, he, hbg, hlg, _⟩ := Kd.R_form hrv (List.length_pos_iff.2 hne)
      injection he with hA _ _
      obtain ⟨bk, o, hA2, hlt, hcl⟩ := ints_at (Kd.R_reads' hrv).2.2 hne
      rw [hA] at hA2
      obtain ⟨rfl, rfl⟩ : g = bk ∧ 0 = o := by
        have := Option.some.inj hA2
        injection this with a b _
        exact ⟨a, b⟩
      exact ⟨g, hA, Nat.le_trans hbw1.size hbg, hlg, fun i x hx => by simpa using hcl i x hx⟩
    have hrc : rr.length ≤ cr := (Kd.R_reads' hrv).2.1
    go_loopw [] (fun wr => ∃ (m : List Int) (f : Nat) (at_ op : Int) (ps : List S36), ScanRel w wr W2.heap.size 0 m at_ op ps ∧
        0 ≤ at_ ∧ at_ + 4 * (m.length : Int) ≤ 4 * (s.size : Int) ∧ ps.length + m.length ≤ s.size ∧ Hid (All m ∧ m.length ≤ f ∧ scanGo f m at_ op ps = scanGo s.size rr 0 (-1) []))
      (fun wr => slLen ((wr.cell? ⟨W2.heap.size, 0, none⟩).getD undef))
    case atStart =>
      refine ⟨rr, s.size, 0, -1, [], ⟨Ar, cr, 0, .slice none 0 0, heap_alloc_new _ _, hrc, blk_alloc hbk2 _, fun hne => ?_, ⟨rfl, Or.inl ⟨rfl, rfl⟩⟩, by simp [Value.ownBlock], by simp [Value.ownBlock], hbw2.alloc hbw2.size _, fun k hk => by simp [Value.ownBlock] at hk⟩, Int.le_refl _, by omega, by simpa using hrl, Lib.hid ⟨HALL.out, hrl, rfl⟩⟩
      obtain ⟨g, h1, h2, h3, h4⟩ := hcells hne
      exact ⟨g, h1, h2, h3, by simp [Value.ownBlock], fun i x hx => by rw [Nat.zero_add]; exact (((Below.refl W2.heap.size W2).alloc (Nat.le_refl _) _).cell (p := ⟨g, i, none⟩) h3).trans (h4 i x hx)⟩
    case round =>
      obtain ⟨m, f, at_, op, ps, hR, hat0, hat1, hpl, HG⟩ := hrel
      have hR2 := hR
      obtain ⟨A, c, j, pv, hB, hmc, hF, hA, hown, hne, hne2, hbw, hpb⟩ := hR2
      have b0 := (blk_cell hB 0).trans rfl
      by_cases hm : m = []
      · subst hm
        have hG := HG.out.2.2
        have hgo : scanGo f [] at_ op ps = (ps, op) := by cases f <;> rfl
        rw [hgo] at hG
        have hsv := HS.out
        rw [← hG] at hsv
        have b2 := (blk_cell hB 2).trans rfl
        have b3 := (blk_cell hB 3).trans rfl
        have c0 := (blk_cell hF 0).trans rfl
        have c1 := (blk_cell hF 1).trans rfl
        have ff := blk_frozen hF
        by_cases hop : op ≥ 0
        · rw [if_pos hop] at hsv
          obtain ⟨rfl, h2⟩ := Prod.mk.inj hsv
          obtain ⟨rfl, rfl⟩ := Prod.mk.inj h2
          have hop0 : decide (0 ≤ op) = true := decide_eq_true hop
          clear hsv h2 hop hG hgo
          go_wp2
          go_region_law (fail)
          go_wp2
          refine bodyPost_ret (results_tmp_row rfl _ _ w.heap.size 27 #[.int .i64 3, .int .i64 op] (0, 0) _ rfl (blk_drew (blk_put (cs := #[.int .i64 3, .int .i64 0]) (blk_put hF 0 (.int .i64 3) rfl) 1 (.int .i64 op) rfl)) rfl rfl (by kernel_rfl)) rfl ⟨_, rfl, Kd.R_nil _ _ _ _ _, ?_⟩
          exact below_drew1 (below_set (below_set hbw (Nat.le_refl _)) (Nat.le_refl _))
        · rw [if_neg hop] at hsv
          have hop0 : decide (0 ≤ op) = false := decide_eq_false hop
          obtain ⟨A3, c3, hpv⟩ : ∃ A3 c3, pv = .slice A3 ps.length c3 := by
            rcases hown.2 with ⟨h, h0⟩ | ⟨g, cap, cur, h, _⟩
            · exact ⟨none, 0, by rw [h, h0]⟩
            · exact ⟨_, _, h⟩
          subst hpv
          by_cases h400 : ps.length > 400
          · rw [if_pos h400] at hsv
            obtain ⟨rfl, h2⟩ := Prod.mk.inj hsv
            obtain ⟨rfl, rfl⟩ := Prod.mk.inj h2
            have h40 : decide ((400 : Int) < ((ps.length : Nat) : Int)) = true := decide_eq_true (by omega)
            clear hsv h2 hop hG hgo h400
            go_wp2
            refine bodyPost_ret (results_tmp_row rfl _ _ w.heap.size 27 #[.int .i64 8, .int .i64 0] (0, 0) _ rfl (blk_put (cs := #[.int .i64 8, .int .i64 0]) (blk_put hF 0 (.int .i64 8) rfl) 1 (.int .i64 0) rfl) rfl rfl (by kernel_rfl)) rfl ⟨_, rfl, Kd.R_nil _ _ _ _ _, ?_⟩
            exact below_set (below_set hbw (Nat.le_refl _)) (Nat.le_refl _)
          · rw [if_neg h400] at hsv
            obtain ⟨rfl, h2⟩ := Prod.mk.inj hsv
            obtain ⟨rfl, rfl⟩ := Prod.mk.inj h2
            have h40 : decide ((400 : Int) < ((ps.length : Nat) : Int)) = false := decide_eq_false (by omega)
            clear hsv h2 hop hG hgo
            have hmk : ∀ W : World, (Instr.makeSlice 22 (.int .i64 0) (.int .i64 ((ps.length : Nat) : Int))).run Tryd.prog W = .ok (.slice (some ⟨W.heap.size, 0, none⟩) 0 ps.length) (W.alloc (.cells (madeCells (Value.agg #[.int .i32 0, .bool false, .int .i64 0]).cells (ps.length * 3)) 36)) := fun W => made_tok W ps.length (by omega)
            have HPL := Lib.hid h400
            clear h400
            have hpla : ps.length ≤ 400 := by have := HPL.out; omega
            have hpc : ∀ (i : Nat) x, ps[i]? = some x → ∃ g, A3 = some ⟨g, 0, none⟩ ∧ g < wr.heap.size ∧ wr.cell? ⟨g, i, none⟩ = some (pieceV x) := fun i x hx => by
              obtain ⟨hi, hxi⟩ := List.getElem?_eq_some_iff.1 hx
              rcases hown.2 with ⟨h, h0⟩ | ⟨g, cap, cur, h, hg⟩
              · omega
              · injection h with hA3 _ _
                subst hA3
                have := hown.cellAt i (by omega)
                rw [List.getElem?_map, hx] at this
                exact ⟨g, rfl, World.block_lt_of_cell? wr _ this, this⟩
            have HC := Lib.hid hpc
            have hsw : w.heap.size ≤ wr.heap.size := hbw.size
            have hlF := blk_lt hF
            have hlB := blk_lt hB
            clear hpc hmc hA hown hne hne2 hpb
            rename World => W5
            go_wp2
            go_loopw [8, 49] (fun v8 v49 wx => ∃ i : Nat, v49 = .int .i64 i ∧ i ≤ ps.length ∧ Kd.R k36 36 wx W5.heap.size (fun _ => True) v8 (ps.take i) ∧ Below W5.heap.size W5 wx) (fun v8 v49 wx => ps.length - (RowKit.intOf v49).toNat)
            case atStart => exact ⟨0, rfl, Nat.zero_le _, R_made0 _ _ _ _ _ _ rfl (Nat.le_refl _) (by unfold maxLen; omega), (Below.refl _ W5).alloc (Nat.le_refl _) _⟩
            case round =>
              obtain ⟨i, rfl, hil, hR, hb2⟩ := hrel
              by_cases hi : i < ps.length
              · obtain ⟨x, hx⟩ := get_exG ps i hi
                obtain ⟨g, hA3, hgl, hgc⟩ := HC.out i x hx
                have hpx := (hb2.cell (p := ⟨g, i, none⟩) hgl).trans hgc
                have hia : ∀ W, (Instr.indexAt 54 (.slice A3 ps.length c3) (.int .i64 (i : Int))).run Tryd.prog W = .ok (.pointer (some ⟨g, i, none⟩)) W := fun W => idx_pieces ps.length c3 i g A3 W hA3 hi
                have hsz2 := hb2.size
                have HX := Lib.hid hx
                clear hx hgc hA3
                go_wp2_with (first
                  | (go_at_call 33; (with_reducible refine (token_calls x _).mono ?_); rintro e W4 ⟨rfl, b4⟩; have hb4 : Below W5.heap.size W5 W4 := hb2.trans (b4.mono hsz2); have hR4 := R_stays hR b4; have hsz4 := hb4.size)
                  | (((with_reducible refine gate_builtin (b := .append) (xs := #[.tmp 53, .tmp 56]) rfl ?_); at_builtin; refine Kd.R_append k36 (w0 := W5) W5.heap.size rfl (.tmp 53) (.tmp 56) 22 36 (.agg #[.int .i32 0, .bool false, .int .i64 0]) 16 rfl Tryd.underlying22 (by kernel_rfl) rfl (by decide) (by omega) u8 (ps.take i) x [.int .i32 x.f0, .bool x.f1, .int .i64 x.f2] (fun _ => True) (fun _ => False) rfl rfl ?aP (fun _ hk => hk.elim) ?aF ?aO ?aB ?aS ?aL ?_; (case aP => exact k36_mkM _ _ _ x); (case aB => exact hb4); (case aF => exact (fun _ _ => trivial)); (case aO => exact hR4); (case aS => exact hsz4); (case aL => rw [List.length_take]; omega); intro v140 w10 ho hb hg hat; clear hg hat)))
                go_roundw
                case rel => exact ⟨i + 1, by go_num, by omega, by rw [List.take_add_one, HX.out]; exact ho, hb⟩
                case measure => simp [RowKit.intOf]; omega
              · have hie : i = ps.length := by omega
                subst hie
                rw [List.take_length] at hR
                have hF2 : wr.heap[w.heap.size]? = some (.cells #[.int .i64 0, .int .i64 0] 27) := (hb2.block _ hlF).trans hF
                have d0 := (blk_cell hF2 0).trans rfl
                have d1 := (blk_cell hF2 1).trans rfl
                have dd := blk_frozen hF2
                have hbw2 : Below w.heap.size w wr := hbw.trans (hb2.mono hsw)
                go_wp2
                refine bodyPost_ret (results_tmp_row rfl _ _ w.heap.size 27 #[.int .i64 0, .int .i64 0] (0, 0) _ rfl (blk_put (cs := #[.int .i64 0, .int .i64 0]) (blk_put hF2 0 (.int .i64 0) rfl) 1 (.int .i64 0) rfl) rfl rfl (by kernel_rfl)) rfl ⟨_, rfl, ?_, below_set (below_set hbw2 (Nat.le_refl _)) (Nat.le_refl _)⟩
                exact R_other (R_other hR hlF _ _) hlF _ _ |> fun h => Kd.R_lower h hsw
      · obtain ⟨r, m', hm'⟩ := List.exists_cons_of_ne_nil hm
        have hln : m.length = m'.length + 1 := by rw [hm']; rfl
        obtain ⟨f, rfl⟩ : ∃ f', f = f' + 1 := ⟨f - 1, by have := HG.out.2.1; omega⟩
        obtain ⟨m2, at2, op2, ps2, e1, e2, e3, e4, e5, e6, hcall⟩ := next_step w wr W2.heap.size 0 f r m' at_ op ps (by rw [← hm']; exact hR) (by rw [← hm']; exact HG.out.1) (blk_lt hbk2) ⟨hat0, by omega⟩ (by omega)
        have hpos : decide (0 < ((m.length : Nat) : Int)) = true := decide_eq_true (by omega)
        have HE := Lib.hid e1
        have HM := Lib.hid hm'
        rw [← hm'] at e2
        clear hR hB hF hA hown hne hne2 hbw hpb e1 hm hm'
        go_wp2_with (go_at_call 32; refine hcall.mono ?_; rintro e W3 ⟨rfl, hR3⟩)
        go_roundw
        case rel =>
          refine ⟨m2, f, at2, op2, ps2, hR3, e4, by omega, by omega, Lib.hid ⟨e3, ?_, ?_⟩⟩
          · have := HG.out.2.1
            omega
          · rw [← HE.out, ← HM.out]
            exact HG.out.2.2
        case measure =>
          obtain ⟨A2, c2, _, _, hB2, _⟩ := hR3
          have b2 := (blk_cell hB2 0).trans rfl
          simp only [b0, b2, Option.getD_some, slLen]
          exact e2
end Go.Proofs.YtcenacecegleeaaDoor.Print
