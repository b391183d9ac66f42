/- What the reference's Items leans on, taken out of layer 14's texts by this session's own program (wip/tools/closure.py). -/
import Derived.Test.YtkgdpgoianimjaaFS
import Derived.Test.YtkgdpgoianimjaaKb
namespace Go.Proofs.Ytkgdpgoianimjaa.Print
open Go.RowKit Go.Proofs.Ytkgdpgoianimjaa.Utf Go.Proofs.YtkgdpgoianimjaaW.PrintWords Go.Proofs.YtkgdpgoianimjaaW.PrintLast Go.Proofs.YtkgdpgoianimjaaW.PrintMore
set_option linter.unusedVariables false
set_option linter.unusedSimpArgs false
/-- A row of tokens that is read: where it lies. -/
theorem toks_at {w : World} {A : Option Addr} {l : List S48} (h : Kd.C k48 w A l.length l) (hl : l ≠ []) :
    ∃ bk o, A = some ⟨bk, o, none⟩ ∧ bk < w.heap.size ∧ ∀ (j : Nat) x, l[j]? = some x → w.cell? ⟨bk, o + j * 3, none⟩ = some (.int .i32 x.f0) ∧ w.cell? ⟨bk, o + j * 3 + 1, none⟩ = some (.bool x.f1) ∧ w.cell? ⟨bk, o + j * 3 + 2, none⟩ = some (.int .i64 x.f2) := by
  obtain ⟨_, _, hc⟩ := h
  obtain ⟨⟨bk, o, sp⟩, rfl, hc2⟩ := hc (List.length_pos_iff.2 hl)
  have one : ∀ (j : Nat) x, l[j]? = some x → w.cell? (Addr.add ⟨bk, o, sp⟩ (j * 3)) = some (.int .i32 x.f0) ∧ w.cell? (Addr.add ⟨bk, o, sp⟩ (j * 3 + 1)) = some (.bool x.f1) ∧ w.cell? (Addr.add ⟨bk, o, sp⟩ (j * 3 + 2)) = some (.int .i64 x.f2) := fun j x hx => by
    obtain ⟨c, _, hK, hcell⟩ := hc2 j x hx
    obtain rfl := k48_open hK
    exact ⟨hcell 0 _ rfl, hcell 1 _ rfl, hcell 2 _ rfl⟩
  obtain ⟨x, r, rfl⟩ := List.exists_cons_of_ne_nil hl
  have h0 := (one 0 x rfl).1
  rw [show (Addr.add ⟨bk, o, sp⟩ (0 * 3)) = ⟨bk, o, sp⟩ by simp [Addr.add]] at h0
  obtain rfl := cell_spot h0
  exact ⟨bk, o, rfl, World.block_lt_of_cell? w _ h0, fun j x hx => by have := one j x hx; rw [Addr.add_lit, Addr.add_lit, Addr.add_lit] at this; exact this⟩
theorem z_tok : ∀ w, (Go.sizeOf 48).run Try.prog w = .ok 3 w := fun w => by kernel_rfl
theorem idx_toks (n c i bk o : Nat) (A : Option Addr) (W : World) (hA : A = some ⟨bk, o, none⟩) (hi : i < n) :
    (Instr.indexAt 43 (.slice A n c) (.int .i64 (i : Int))).run Try.prog W = .ok (.pointer (some ⟨bk, o + i * 3, none⟩)) W := by
  subst hA
  have ht : Try.prog.underlying 43 = some (.slice (Try.prog.elem 43)) := by kernel_rfl
  have he : Try.prog.elem 43 = 48 := by kernel_rfl
  rw [run_indexAt_slice _ _ _ _ _ _ _ ht, he, if_pos ⟨by omega, by omega⟩, z_tok]
  simp [Result.andThen, Addr.add_lit]
def sgnK (r : Int) : Int := if r = 45 then 2 else if r = 43 then 3 else if r = 37 then 4 else if r = 8240 then 5 else if r = 164 then 6 else 0
def markB (r : Int) : Bool := decide ((48 ≤ r ∧ r ≤ 57) ∨ r = 35 ∨ r = 64 ∨ r = 44 ∨ r = 46 ∨ r = 59 ∨ r = 42)

/-- A token's item, unless it is a mark. -/
def itemTk (x : S48) : Option S57 :=
  if x.f1 = true then some ⟨1, x.f0⟩ else if markB x.f0 = true then none else if sgnK x.f0 = 0 then some ⟨1, x.f0⟩ else some ⟨sgnK x.f0, 0⟩
def itemsGo : List S48 → List S57 → List S57 × Int × Int
  | [], acc => if acc.length > 40 then ([], 8, 0) else (acc, 0, 0)
  | x :: t, acc => match itemTk x with
    | none => ([], 4, x.f2)
    | some a => itemsGo t (acc ++ [a])
theorem R_staysA {α : Type} {d : Kd α} {e base : Nat} {W W' : World} {v : Value} {xs : List α} (h : d.R e W base (fun _ => True) v xs) (hb : Below W.heap.size W W') : d.R e W' base (fun _ => True) v xs :=
  Kd.R_mono (Kd.R_move (Kd.R_bound h) (fun k hk => hb.block k hk.2.2.1)) (fun _ _ => trivial)
theorem R_otherA {α : Type} {d : Kd α} {e base b : Nat} {W : World} {v : Value} {xs : List α} (h : d.R e W base (fun _ => True) v xs) (hb : b < base) (i : Nat) (u : Value) : d.R e (W.setCell ⟨b, i, none⟩ u) base (fun _ => True) v xs :=
  Kd.R_mono (Kd.R_move (Kd.R_bound h) (fun k hk => heap_setCell_other _ _ _ _ (by have := hk.2.1; show k ≠ b; omega))) (fun _ _ => trivial)
theorem results_tmp_rowA {P : Program} {fn : Func} {p u : Tmp} {ty : TypeId} (h : fn.results = #[.tmp u, .cell p ty]) (tmps : Array Value) (w : World) (g : Nat) (t : TypeId) (cs : Array Value) (fr : Nat × Nat) (d : TypeDesc)
    (hp : tmps.getD p undef = .pointer (some ⟨g, 0, none⟩)) (hg : w.heap[g]? = some (.cells cs t fr))
    (hu : P.underlying ty = some d) (hd : (match d with | .struct _ | .array _ _ => true | _ => false) = true) (hi : (P.info? ty).map (·.size) = some cs.size) :
    (results fn tmps).run P w = .ok (.tuple #[tmps.getD u undef, .agg cs]) w := by
  have hp' : tmps[p]?.getD undef = .pointer (some ⟨g, 0, none⟩) := by simpa using hp
  simp [results, h, hp', asAddr, run_loadVar_row w g t ty cs fr d hg hu hd hi]
end Go.Proofs.Ytkgdpgoianimjaa.Print
