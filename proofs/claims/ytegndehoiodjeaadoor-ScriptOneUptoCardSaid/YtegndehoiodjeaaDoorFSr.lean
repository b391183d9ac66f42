/- Package script's read: what it answers, as a plain function, and its contract. -/
import Derived.Test.YtegndehoiodjeaaDoorFSl
import Derived.Test.YtegndehoiodjeaaDoorPR
import Derived.Lib.SplitLaws
import Derived.Lib.AtoiErrMem
namespace Go.Proofs.YtegndehoiodjeaaDoor.Print
open Go.RowKit Go.Proofs.YtegndehoiodjeaaDoorW.PrintWords Go.Proofs.YtegndehoiodjeaaDoorW.PrintLast Go.Proofs.YtegndehoiodjeaaDoorW.PrintMore
set_option linter.unusedVariables false
set_option linter.unusedSimpArgs false

/-! ### words -/
theorem splitK_C (c : UInt8) : ∀ (s : List UInt8) (k : Nat), s.count c ≤ k → Lib.splitK [c] 0 k s = Q.splitC c s
  | [], k, _ => by
    cases k with
    | zero => rfl
    | succ k => simp [Lib.splitK, Lib.index, Q.splitC]
  | b :: l, k, hk => by
    by_cases hb : b = c
    · subst hb
      rw [List.count_cons_self] at hk
      obtain ⟨k, rfl⟩ : ∃ j, k = j + 1 := ⟨k - 1, by omega⟩
      have hi : Lib.index (b :: l) [b] = 0 := by simp [Lib.index]
      simp only [Lib.splitK, hi, Q.splitC]
      rw [if_neg (by decide), if_pos trivial]
      have := splitK_C b l k (by omega)
      simpa using this
    · rw [List.count_cons_of_ne hb] at hk
      cases k with
      | zero =>
        have hf : ∀ x ∈ b :: l, x ≠ c := fun x hx e => by
          rcases List.mem_cons.1 hx with rfl | hx
          · exact hb e
          · subst e
            exact absurd (List.count_pos_iff.2 hx) (by omega)
        rw [Q.splitC_free c (b :: l) hf]
        rfl
      | succ k =>
        have ih := splitK_C c l (k + 1) hk
        have hp : ([c].isPrefixOf (b :: l)) = false := by simp [List.isPrefixOf]; exact fun e => hb e.symm
        have hi : Lib.index (b :: l) [c] = if Lib.index l [c] == -1 then -1 else Lib.index l [c] + 1 := by
          rw [Lib.index, hp]; rfl
        simp only [Lib.splitK] at ih ⊢
        simp only [Q.splitC]
        rw [if_neg hb, hi]
        by_cases hm : Lib.index l [c] = -1
        · rw [hm] at ih ⊢
          rw [if_pos (by decide)] at ih
          rw [if_pos (by decide), ← ih]
        · have hge := Lib.index_ge l [c]
          have hm2 : (Lib.index l [c] == -1) = false := beq_eq_false_iff_ne.2 hm
          rw [hm2] at ih ⊢
          have hm3 : (Lib.index l [c] + 1 == -1) = false := beq_eq_false_iff_ne.2 (by omega)
          simp only [Bool.false_eq_true, if_false, hm3] at ih ⊢
          rw [← ih]
          have e1 : (Lib.index l [c] + 1).toNat = (Lib.index l [c]).toNat + 1 := by omega
          rw [e1]
          simp [Nat.add_right_comm]
def wordsOf (s : ByteArray) : List ByteArray := Lib.splitB ⟨#[32]⟩ 0 (Lib.countB s ⟨#[32]⟩) s
theorem wordsOf_map (s : ByteArray) : (wordsOf s).map U.L = Q.splitC 32 (U.L s) := by
  unfold wordsOf
  have := Lib.splitB_data ⟨#[32]⟩ 0 (Lib.countB s ⟨#[32]⟩) s
  refine this.trans ?_
  refine splitK_C 32 _ _ ?_
  unfold Lib.countB
  rw [show (⟨#[32]⟩ : ByteArray).data.toList = [32] from rfl, Lib.count_one]
  exact Nat.le_refl _
theorem wordsOf_len (s : ByteArray) : (wordsOf s).length = Lib.countB s ⟨#[32]⟩ + 1 := Lib.splitB_all ⟨#[32]⟩ (Nat.le_refl _) 0 _ s rfl
theorem splitC_le (c : UInt8) : ∀ (s : List UInt8), ∀ w ∈ Q.splitC c s, w.length ≤ s.length
  | [], w, hw => by
    have : w = [] := by simpa [Q.splitC] using hw
    simp [this]
  | b :: r, w, hw => by
    have ih := splitC_le c r
    simp only [Q.splitC] at hw
    split at hw
    · rcases List.mem_cons.1 hw with rfl | hw
      · simp
      · have := ih w hw
        simp; omega
    · obtain ⟨h, t, hs⟩ := List.exists_cons_of_ne_nil (Q.splitC_ne c r)
      rw [hs] at hw ih
      rcases List.mem_cons.1 hw with rfl | hw
      · have := ih h (by simp)
        simp; omega
      · have := ih w (by simp [hw])
        simp; omega
theorem wordsOf_le (s x : ByteArray) (hx : x ∈ wordsOf s) : x.size ≤ s.size := by
  have h : U.L x ∈ Q.splitC 32 (U.L s) := by rw [← wordsOf_map]; exact List.mem_map_of_mem hx
  have := splitC_le 32 _ _ h
  rwa [U.L_len, U.L_len] at this
theorem idx_strs (n c i bk : Nat) (W : World) (hi : i < n) :
    (Instr.indexAt 40 (.slice (some ⟨bk, 0, none⟩) n c) (.int .i64 (i : Int))).run Tryd.prog W = .ok (.pointer (some ⟨bk, i, none⟩)) W := by
  have ht : Tryd.prog.underlying 40 = some (.slice (Tryd.prog.elem 40)) := by kernel_rfl
  have he : Tryd.prog.elem 40 = 9 := by kernel_rfl
  have hz : ∀ w, (Go.sizeOf 9).run Tryd.prog w = .ok 1 w := fun w => by kernel_rfl
  rw [run_indexAt_slice _ _ _ _ _ _ _ ht, he, if_pos ⟨by omega, by omega⟩, hz]
  simp [Result.andThen, Addr.add_lit]

theorem _root_.Go.Proofs.YtegndehoiodjeaaDoor.Q.allSome_app {α : Type} : ∀ (l m : List (Option α)), Q.allSome (l ++ m) = (Q.allSome l).bind fun a => (Q.allSome m).map fun b => a ++ b
  | [], m => by
    simp only [List.nil_append, Q.allSome, Option.bind_some]
    cases Q.allSome m <;> rfl
  | o :: r, m => by
    simp only [List.cons_append, Q.allSome, Q.allSome_app r m]
    cases o with
    | none => rfl
    | some a =>
      cases Q.allSome r with
      | none => rfl
      | some b =>
        cases Q.allSome m <;> rfl
/-- A part that fails makes the whole fail. -/
theorem _root_.Go.Proofs.YtegndehoiodjeaaDoor.Q.allSome_part {α β : Type} {f : α → Option β} (l : List α) (i : Nat) (h : Q.allSome ((l.take i).map f) = none) : Q.allSome (l.map f) = none := by
  have e : l.map f = (l.take i).map f ++ (l.drop i).map f := by rw [← List.map_append, List.take_append_drop]
  rw [e, Q.allSome_app, h]
  rfl

theorem _root_.Go.Proofs.YtegndehoiodjeaaDoor.Q.prog_nums {l : List (List UInt8)} {ts : List (List UInt8)} {ks : List Int} (h : l.length = 16) (ht : Q.allSome ((l.drop 5).map Q.bytesX) = some ts) (hk : Q.allSome ((l.take 4).map fun x => Q.okOf (Lib.atoiAll x)) = some ks) :
    Q.progP l = some ⟨ks.getD 0 0, ks.getD 1 0, Q.z32 (ks.getD 2 0), ks.getD 3 0, decide (l.getD 4 [] = [49]), ts⟩ ∧ ks.length = 4 := by
  unfold Q.progP
  rw [if_pos h, ht]
  match l, h with
  | w0 :: w1 :: w2 :: w3 :: w4 :: r, h =>
    simp only [List.take_succ_cons, List.take_zero, List.map_cons, List.map_nil, List.getD_cons_zero, List.getD_cons_succ, Q.allSome, Option.bind_some] at hk ⊢
    cases h0 : Q.okOf (Lib.atoiAll w0) with
    | none => rw [h0] at hk; cases hk
    | some k0 =>
    cases h1 : Q.okOf (Lib.atoiAll w1) with
    | none => rw [h0, h1] at hk; cases hk
    | some k1 =>
    cases h2 : Q.okOf (Lib.atoiAll w2) with
    | none => rw [h0, h1, h2] at hk; cases hk
    | some k2 =>
    cases h3 : Q.okOf (Lib.atoiAll w3) with
    | none => rw [h0, h1, h2, h3] at hk; cases hk
    | some k3 =>
      rw [h0, h1, h2, h3] at hk
      simp only [Option.bind_some, Option.map_some, Option.some.injEq] at hk
      subst hk
      simp
theorem _root_.Go.Proofs.YtegndehoiodjeaaDoor.Q.prog_fail {l : List (List UInt8)} (i : Nat) (hi : i ≤ 4) (hk : Q.allSome ((l.take i).map fun x => Q.okOf (Lib.atoiAll x)) = none) : Q.progP l = none := by
  cases hp : Q.progP l with
  | none => rfl
  | some c =>
    exfalso
    have h4 : Q.allSome ((l.take 4).map fun x => Q.okOf (Lib.atoiAll x)) = none := Q.allSome_part (f := fun x => Q.okOf (Lib.atoiAll x)) (l.take 4) i (by rw [List.take_take, Nat.min_eq_left hi]; exact hk)
    unfold Q.progP at hp
    split at hp
    · rename_i h16
      cases h5 : Q.allSome ((l.drop 5).map Q.bytesX) with
      | none => rw [h5] at hp; cases hp
      | some ts =>
      match l, h16 with
      | w0 :: w1 :: w2 :: w3 :: w4 :: r, h16 =>
        rw [h5] at hp
        simp only [List.take_succ_cons, List.take_zero, List.map_cons, List.map_nil, List.getD_cons_zero, List.getD_cons_succ, Q.allSome, Option.bind_some] at h4 hp
        cases h0 : Q.okOf (Lib.atoiAll w0) with
        | none => rw [h0] at hp; cases hp
        | some k0 =>
        cases h1 : Q.okOf (Lib.atoiAll w1) with
        | none => rw [h0, h1] at hp; cases hp
        | some k1 =>
        cases h2 : Q.okOf (Lib.atoiAll w2) with
        | none => rw [h0, h1, h2] at hp; cases hp
        | some k2 =>
        cases h3 : Q.okOf (Lib.atoiAll w3) with
        | none => rw [h0, h1, h2, h3] at hp; cases hp
        | some k3 =>
          rw [h0, h1, h2, h3] at h4
          cases h4
    · cases hp

/-! ### what it answers -/
/-- A command of its numbers and its texts. -/
def recOf (k m z e : Int) (neg : Bool) (ts : List ByteArray) : S29 :=
  ⟨k, m, ts.getD 0 ⟨#[]⟩, ⟨z, ts.getD 3 ⟨#[]⟩, ts.getD 4 ⟨#[]⟩, ts.getD 5 ⟨#[]⟩, ts.getD 6 ⟨#[]⟩, ts.getD 7 ⟨#[]⟩, ts.getD 8 ⟨#[]⟩, ts.getD 9 ⟨#[]⟩, ts.getD 10 ⟨#[]⟩⟩, ⟨neg, ts.getD 2 ⟨#[]⟩, e⟩, ts.getD 1 ⟨#[]⟩⟩
theorem zero_cells {w : World} {b : Nat} (h : w.heap[b]? = some (.cells (cmdV z29) 29 (0, 0))) :
    w.cell? ⟨b, 0, none⟩ = some (.int .i64 0) ∧ w.cell? ⟨b, 1, none⟩ = some (.int .i64 0) ∧ w.cell? ⟨b, 2, none⟩ = some (.string ⟨#[]⟩) ∧ w.cell? ⟨b, 3, none⟩ = some (.int .i32 0) ∧ w.cell? ⟨b, 4, none⟩ = some (.string ⟨#[]⟩) ∧ w.cell? ⟨b, 5, none⟩ = some (.string ⟨#[]⟩) ∧ w.cell? ⟨b, 6, none⟩ = some (.string ⟨#[]⟩) ∧ w.cell? ⟨b, 7, none⟩ = some (.string ⟨#[]⟩) ∧
    w.cell? ⟨b, 8, none⟩ = some (.string ⟨#[]⟩) ∧ w.cell? ⟨b, 9, none⟩ = some (.string ⟨#[]⟩) ∧ w.cell? ⟨b, 10, none⟩ = some (.string ⟨#[]⟩) ∧ w.cell? ⟨b, 11, none⟩ = some (.string ⟨#[]⟩) ∧ w.cell? ⟨b, 12, none⟩ = some (.bool false) ∧ w.cell? ⟨b, 13, none⟩ = some (.string ⟨#[]⟩) ∧ w.cell? ⟨b, 14, none⟩ = some (.int .i64 0) ∧ w.cell? ⟨b, 15, none⟩ = some (.string ⟨#[]⟩) :=
  ⟨blk_cell h 0, blk_cell h 1, blk_cell h 2, blk_cell h 3, blk_cell h 4, blk_cell h 5, blk_cell h 6, blk_cell h 7, blk_cell h 8, blk_cell h 9, blk_cell h 10, blk_cell h 11, blk_cell h 12, blk_cell h 13, blk_cell h 14, blk_cell h 15⟩
def mkB (l : List UInt8) : ByteArray := ⟨l.toArray⟩
def ofCm (c : Q.Cm) : S29 := recOf c.k c.m c.z c.e c.neg (c.ts.map mkB)
def script_read.g (s : ByteArray) : Option (S29 × Bool) :=
  if s.size ≤ 1000000000 then (match Q.progP (Q.splitC 32 (U.L s)) with
    | none => some (z29, false)
    | some c => some (ofCm c, decide (Q.lineL c = U.L s))) else none
/-- A text's place is written. -/
theorem rec_put (B : Nat) (k m z e : Int) (neg : Bool) (ts : List ByteArray) (h : ts.length < 11) :
    ∃ o, (placesV B)[ts.length]? = some (.pointer (some ⟨B, o, none⟩)) ∧ (∃ u, (cmdV (recOf k m z e neg ts))[o]? = some (.string u)) ∧ ∀ t, (cmdV (recOf k m z e neg ts)).setIfInBounds o (.string t) = cmdV (recOf k m z e neg (ts ++ [t])) := by
  match ts, h with
  | [], _ => exact ⟨2, rfl, ⟨_, rfl⟩, fun _ => rfl⟩
  | [_], _ => exact ⟨15, rfl, ⟨_, rfl⟩, fun _ => rfl⟩
  | [_, _], _ => exact ⟨13, rfl, ⟨_, rfl⟩, fun _ => rfl⟩
  | [_, _, _], _ => exact ⟨4, rfl, ⟨_, rfl⟩, fun _ => rfl⟩
  | [_, _, _, _], _ => exact ⟨5, rfl, ⟨_, rfl⟩, fun _ => rfl⟩
  | [_, _, _, _, _], _ => exact ⟨6, rfl, ⟨_, rfl⟩, fun _ => rfl⟩
  | [_, _, _, _, _, _], _ => exact ⟨7, rfl, ⟨_, rfl⟩, fun _ => rfl⟩
  | [_, _, _, _, _, _, _], _ => exact ⟨8, rfl, ⟨_, rfl⟩, fun _ => rfl⟩
  | [_, _, _, _, _, _, _, _], _ => exact ⟨9, rfl, ⟨_, rfl⟩, fun _ => rfl⟩
  | [_, _, _, _, _, _, _, _, _], _ => exact ⟨10, rfl, ⟨_, rfl⟩, fun _ => rfl⟩
  | [_, _, _, _, _, _, _, _, _, _], _ => exact ⟨11, rfl, ⟨_, rfl⟩, fun _ => rfl⟩
theorem blk_put2 {w : World} {g : Nat} {t : TypeId} {cs cs2 : Array Value} (h : w.heap[g]? = some (.cells cs t (0, 0))) (i : Nat) (u : Value) (e : cs.setIfInBounds i u = cs2) : (w.setCell ⟨g, i, none⟩ u).heap[g]? = some (.cells cs2 t (0, 0)) := e ▸ blk_set h i u
/-- A whole command is written. -/
theorem store_all {W : World} {b : Nat} (y x : S29) (h : W.heap[b]? = some (.cells (cmdV y) 29 (0, 0))) :
    ((((((((((((((((W.setCell ⟨b, 0, none⟩ (.int .i64 x.f0)).setCell ⟨b, 1, none⟩ (.int .i64 x.f1)).setCell ⟨b, 2, none⟩ (.string x.f2)).setCell ⟨b, 3, none⟩ (.int .i32 x.f3.f0)).setCell ⟨b, 4, none⟩ (.string x.f3.f1)).setCell ⟨b, 5, none⟩ (.string x.f3.f2)).setCell ⟨b, 6, none⟩ (.string x.f3.f3)).setCell ⟨b, 7, none⟩ (.string x.f3.f4)).setCell ⟨b, 8, none⟩ (.string x.f3.f5)).setCell ⟨b, 9, none⟩ (.string x.f3.f6)).setCell ⟨b, 10, none⟩ (.string x.f3.f7)).setCell ⟨b, 11, none⟩ (.string x.f3.f8)).setCell ⟨b, 12, none⟩ (.bool x.f4.f0)).setCell ⟨b, 13, none⟩ (.string x.f4.f1)).setCell ⟨b, 14, none⟩ (.int .i64 x.f4.f2)).setCell ⟨b, 15, none⟩ (.string x.f5)).heap[b]? = some (.cells (cmdV x) 29 (0, 0)) := by
  have e := blk_set (blk_set (blk_set (blk_set (blk_set (blk_set (blk_set (blk_set (blk_set (blk_set (blk_set (blk_set (blk_set (blk_set (blk_set (blk_set h 0 (.int .i64 x.f0)) 1 (.int .i64 x.f1)) 2 (.string x.f2)) 3 (.int .i32 x.f3.f0)) 4 (.string x.f3.f1)) 5 (.string x.f3.f2)) 6 (.string x.f3.f3)) 7 (.string x.f3.f4)) 8 (.string x.f3.f5)) 9 (.string x.f3.f6)) 10 (.string x.f3.f7)) 11 (.string x.f3.f8)) 12 (.bool x.f4.f0)) 13 (.string x.f4.f1)) 14 (.int .i64 x.f4.f2)) 15 (.string x.f5)
  rw [e]
  simp [cmdV]
theorem below_all {W w : World} {b : Nat} (x : S29) (hb : Below w.heap.size w W) (h : w.heap.size ≤ b) :
    Below w.heap.size w ((((((((((((((((W.setCell ⟨b, 0, none⟩ (.int .i64 x.f0)).setCell ⟨b, 1, none⟩ (.int .i64 x.f1)).setCell ⟨b, 2, none⟩ (.string x.f2)).setCell ⟨b, 3, none⟩ (.int .i32 x.f3.f0)).setCell ⟨b, 4, none⟩ (.string x.f3.f1)).setCell ⟨b, 5, none⟩ (.string x.f3.f2)).setCell ⟨b, 6, none⟩ (.string x.f3.f3)).setCell ⟨b, 7, none⟩ (.string x.f3.f4)).setCell ⟨b, 8, none⟩ (.string x.f3.f5)).setCell ⟨b, 9, none⟩ (.string x.f3.f6)).setCell ⟨b, 10, none⟩ (.string x.f3.f7)).setCell ⟨b, 11, none⟩ (.string x.f3.f8)).setCell ⟨b, 12, none⟩ (.bool x.f4.f0)).setCell ⟨b, 13, none⟩ (.string x.f4.f1)).setCell ⟨b, 14, none⟩ (.int .i64 x.f4.f2)).setCell ⟨b, 15, none⟩ (.string x.f5)) :=
  below_set (below_set (below_set (below_set (below_set (below_set (below_set (below_set (below_set (below_set (below_set (below_set (below_set (below_set (below_set (below_set hb h) h) h) h) h) h) h) h) h) h) h) h) h) h) h) h
theorem results_cell_tmp {P : Program} {fn : Func} {p u : Tmp} {ty : TypeId} (h : fn.results = #[.cell p ty, .tmp u]) (tmps : Array Value) (w : World) (g : Nat) (t : TypeId) (cs : Array Value) (fr : Nat × Nat) (d : TypeDesc)
    (hp : tmps.getD p undef = .pointer (some ⟨g, 0, none⟩)) (hg : w.heap[g]? = some (.cells cs t fr))
    (hu : P.underlying ty = some d) (hd : (match d with | .struct _ | .array _ _ => true | _ => false) = true) (hi : (P.info? ty).map (·.size) = some cs.size) :
    (results fn tmps).run P w = .ok (.tuple #[.agg cs, tmps.getD u undef]) w := by
  have hp' : tmps[p]?.getD undef = .pointer (some ⟨g, 0, none⟩) := by simpa using hp
  simp [results, h, hp', asAddr, run_loadVar_row w g t ty cs fr d hg hu hd hi]
theorem far_all {W : World} {b g : Nat} {t : TypeId} {cs : Array Value} (x : S29) (h : W.heap[g]? = some (.cells cs t (0, 0))) (hne : g ≠ b) :
    ((((((((((((((((W.setCell ⟨b, 0, none⟩ (.int .i64 x.f0)).setCell ⟨b, 1, none⟩ (.int .i64 x.f1)).setCell ⟨b, 2, none⟩ (.string x.f2)).setCell ⟨b, 3, none⟩ (.int .i32 x.f3.f0)).setCell ⟨b, 4, none⟩ (.string x.f3.f1)).setCell ⟨b, 5, none⟩ (.string x.f3.f2)).setCell ⟨b, 6, none⟩ (.string x.f3.f3)).setCell ⟨b, 7, none⟩ (.string x.f3.f4)).setCell ⟨b, 8, none⟩ (.string x.f3.f5)).setCell ⟨b, 9, none⟩ (.string x.f3.f6)).setCell ⟨b, 10, none⟩ (.string x.f3.f7)).setCell ⟨b, 11, none⟩ (.string x.f3.f8)).setCell ⟨b, 12, none⟩ (.bool x.f4.f0)).setCell ⟨b, 13, none⟩ (.string x.f4.f1)).setCell ⟨b, 14, none⟩ (.int .i64 x.f4.f2)).setCell ⟨b, 15, none⟩ (.string x.f5)).heap[g]? = some (.cells cs t (0, 0)) :=
  blk_far (blk_far (blk_far (blk_far (blk_far (blk_far (blk_far (blk_far (blk_far (blk_far (blk_far (blk_far (blk_far (blk_far (blk_far (blk_far h hne _) hne _) hne _) hne _) hne _) hne _) hne _) hne _) hne _) hne _) hne _) hne _) hne _) hne _) hne _) hne _
theorem getD_le {ts : List ByteArray} {B : Nat} (h : ∀ x ∈ ts, x.size ≤ B) (i : Nat) : (ts.getD i ⟨#[]⟩).size ≤ B := by
  rw [List.getD_eq_getElem?_getD]
  cases hi : ts[i]? with
  | none => exact Nat.zero_le _
  | some x => exact h x (List.mem_of_getElem? hi)
theorem tsB_le {k m z e : Int} {neg : Bool} {ts : List ByteArray} {B : Nat} (h : ∀ x ∈ ts, x.size ≤ B) : ∀ x ∈ tsB (recOf k m z e neg ts), x.size ≤ B := by
  intro x hx
  simp only [tsB, recOf, List.mem_cons, List.not_mem_nil, or_false] at hx
  rcases hx with rfl | rfl | rfl | rfl | rfl | rfl | rfl | rfl | rfl | rfl | rfl
  all_goals exact getD_le h _
theorem cm_of (c : Q.Cm) (h : c.ok) : cmOf (ofCm c) = c := by
  obtain ⟨k, m, z, e, neg, ts⟩ := c
  have hl : ts.length = 11 := h.2.2.2.2
  match ts, hl with
  | [t0, t1, t2, t3, t4, t5, t6, t7, t8, t9, t10], _ => simp [cmOf, ofCm, recOf, mkB, U.L_mk]
theorem all_cells {w : World} {b : Nat} (x : S29) (h : w.heap[b]? = some (.cells (cmdV x) 29 (0, 0))) :
    w.cell? ⟨b, 0, none⟩ = some (.int .i64 x.f0) ∧ w.cell? ⟨b, 1, none⟩ = some (.int .i64 x.f1) ∧ w.cell? ⟨b, 2, none⟩ = some (.string x.f2) ∧ w.cell? ⟨b, 3, none⟩ = some (.int .i32 x.f3.f0) ∧ w.cell? ⟨b, 4, none⟩ = some (.string x.f3.f1) ∧ w.cell? ⟨b, 5, none⟩ = some (.string x.f3.f2) ∧ w.cell? ⟨b, 6, none⟩ = some (.string x.f3.f3) ∧ w.cell? ⟨b, 7, none⟩ = some (.string x.f3.f4) ∧
    w.cell? ⟨b, 8, none⟩ = some (.string x.f3.f5) ∧ w.cell? ⟨b, 9, none⟩ = some (.string x.f3.f6) ∧ w.cell? ⟨b, 10, none⟩ = some (.string x.f3.f7) ∧ w.cell? ⟨b, 11, none⟩ = some (.string x.f3.f8) ∧ w.cell? ⟨b, 12, none⟩ = some (.bool x.f4.f0) ∧ w.cell? ⟨b, 13, none⟩ = some (.string x.f4.f1) ∧ w.cell? ⟨b, 14, none⟩ = some (.int .i64 x.f4.f2) ∧ w.cell? ⟨b, 15, none⟩ = some (.string x.f5) :=
  ⟨blk_cell h 0, blk_cell h 1, blk_cell h 2, blk_cell h 3, blk_cell h 4, blk_cell h 5, blk_cell h 6, blk_cell h 7, blk_cell h 8, blk_cell h 9, blk_cell h 10, blk_cell h 11, blk_cell h 12, blk_cell h 13, blk_cell h 14, blk_cell h 15⟩
/-- The pointers to a command's numbers. -/
def numsV (X Z : Nat) : Array Value := #[.pointer (some ⟨X, 0, none⟩), .pointer (some ⟨X, 1, none⟩), .pointer (some ⟨Z, 0, none⟩), .pointer (some ⟨X, 14, none⟩)]
def recK (ks : List Int) (ts : List ByteArray) : S29 := recOf (ks.getD 0 0) (ks.getD 1 0) 0 (ks.getD 3 0) false ts
/-- A number's place is written. -/
theorem num_put (X Z : Nat) (hne : X ≠ Z) (ks : List Int) (ts : List ByteArray) (h : ks.length < 4) :
    ∃ b o, (numsV X Z)[ks.length]? = some (.pointer (some ⟨b, o, none⟩)) ∧ (b = X ∨ b = Z) ∧ ∀ W : World, W.heap[X]? = some (.cells (cmdV (recK ks ts)) 29 (0, 0)) → W.heap[Z]? = some (.cells #[.int .i64 (ks.getD 2 0)] 3 (0, 0)) →
      (∃ u, W.cell? ⟨b, o, none⟩ = some (.int .i64 u)) ∧ W.frozen? ⟨b, o, none⟩ = false ∧ ∀ v, (W.setCell ⟨b, o, none⟩ (.int .i64 v)).heap[X]? = some (.cells (cmdV (recK (ks ++ [v]) ts)) 29 (0, 0)) ∧ (W.setCell ⟨b, o, none⟩ (.int .i64 v)).heap[Z]? = some (.cells #[.int .i64 ((ks ++ [v]).getD 2 0)] 3 (0, 0)) := by
  match ks, h with
  | [], _ => exact ⟨X, 0, rfl, .inl rfl, fun W hX hZ => ⟨⟨_, blk_cell hX 0⟩, blk_frozen hX 0, fun v => ⟨blk_put2 hX 0 _ rfl, blk_far hZ (fun e => hne e.symm) _⟩⟩⟩
  | [_], _ => exact ⟨X, 1, rfl, .inl rfl, fun W hX hZ => ⟨⟨_, blk_cell hX 1⟩, blk_frozen hX 1, fun v => ⟨blk_put2 hX 1 _ rfl, blk_far hZ (fun e => hne e.symm) _⟩⟩⟩
  | [_, _], _ => exact ⟨Z, 0, rfl, .inr rfl, fun W hX hZ => ⟨⟨_, blk_cell hZ 0⟩, blk_frozen hZ 0, fun v => ⟨blk_far hX hne _, blk_put2 hZ 0 _ rfl⟩⟩⟩
  | [_, _, _], _ => exact ⟨X, 14, rfl, .inl rfl, fun W hX hZ => ⟨⟨_, blk_cell hX 14⟩, blk_frozen hX 14, fun v => ⟨blk_put2 hX 14 _ rfl, blk_far hZ (fun e => hne e.symm) _⟩⟩⟩
theorem idx_ints (n c i bk : Nat) (W : World) (hi : i < n) :
    (Instr.indexAt 68 (.slice (some ⟨bk, 0, none⟩) n c) (.int .i64 (i : Int))).run Tryd.prog W = .ok (.pointer (some ⟨bk, i, none⟩)) W := by
  have ht : Tryd.prog.underlying 68 = some (.slice (Tryd.prog.elem 68)) := by kernel_rfl
  have he : Tryd.prog.elem 68 = 67 := by kernel_rfl
  have hz : ∀ w, (Go.sizeOf 67).run Tryd.prog w = .ok 1 w := fun w => by kernel_rfl
  rw [run_indexAt_slice _ _ _ _ _ _ _ ht, he, if_pos ⟨by omega, by omega⟩, hz]
  simp [Result.andThen, Addr.add_lit]
theorem atoi_ok (s : ByteArray) (v : Int) (h : Q.okOf (Lib.atoiAll (U.L s)) = some v) (hs : s.size ≤ 1000000000) (w : World) : Calls Tryd.prog 29 #[.string s] w fun e w' => e = .returned (.tuple #[.int .i64 v, .nilIface]) ∧ Below w.heap.size w w' := by
  unfold Q.okOf at h
  rcases ha : Lib.atoiAll (U.L s) with n | _ | _
  · rw [ha] at h
    obtain rfl := Option.some.inj h
    refine (Tryd.strconv_Atoi_ok s (by omega) n ha w).mono fun e w' ⟨he, hw⟩ => ⟨he, ?_⟩
    rcases hw with rfl | ⟨t, rfl⟩
    · exact Below.refl _ _
    · exact Lib.bytesWorld_below w _ t
  · rw [ha] at h; cases h
  · rw [ha] at h; cases h
theorem atoi_no (s : ByteArray) (h : Q.okOf (Lib.atoiAll (U.L s)) = none) (hs : s.size ≤ 1000000000) (w : World) (hT : Tabs w) : Calls Tryd.prog 29 #[.string s] w fun e w' => ∃ n N, e = .returned (.tuple #[.int .i64 n, .iface 87 (.pointer (some ⟨N, 0, none⟩))]) ∧ Below w.heap.size w w' := by
  obtain ⟨_, _, ⟨t1, p1, h1⟩, ⟨t2, p2, h2⟩⟩ := hT
  unfold Q.okOf at h
  rcases ha : Lib.atoiAll (U.L s) with n | _ | _
  · rw [ha] at h; cases h
  · exact (Go.Proofs.Any.strconv_Atoi_syntax Tryd.laysC172 s (by omega) ha _ w h1 (.inr ⟨t1, p1, rfl⟩)).mono fun e w' ⟨N, he, _, _, hb⟩ => ⟨_, N, he, hb⟩
  · exact (Go.Proofs.Any.strconv_Atoi_range Tryd.laysC172 s (by omega) ha _ w h2 (.inr ⟨t2, p2, rfl⟩)).mono fun e w' ⟨N, he, _, _, hb⟩ => ⟨_, N, he, hb⟩
theorem split_calls (s : ByteArray) (w : World) (hT : Tabs w) (hs : s.size ≤ 1000000000) : Calls Tryd.prog 26 #[.string s, .string ⟨#[32]⟩] w fun e w' =>
    e = .returned (.slice (some ⟨w.heap.size, 0, none⟩) (wordsOf s).length (wordsOf s).length) ∧ w'.heap[w.heap.size]? = some (.cells ((wordsOf s).map Value.string).toArray 9 (0, 0)) ∧ Below w.heap.size w w' ∧ w'.heap.size = w.heap.size + 1 := by
  obtain ⟨⟨m, hm⟩, _⟩ := hT
  refine (Tryd.strings_Split s ⟨#[32]⟩ m w (by omega) hm (Nat.le_refl _)).mono fun e w' ⟨he, hw⟩ => ?_
  subst hw
  refine ⟨?_, heap_alloc_new w _, (Below.refl _ w).alloc (Nat.le_refl _) _, by show (w.heap.push _).size = _; simp⟩
  rw [wordsOf_len]
  exact he

set_option maxHeartbeats 8000000 in
set_option maxRecDepth 1000000 in
theorem read_fail (s : ByteArray) (w : World) (hT : Tabs w) (hs : s.size ≤ 1000000000) (h : Q.progP (Q.splitC 32 (U.L s)) = none) :
    Calls Tryd.prog 19 #[.string s] w fun e w' => e = .returned (.tuple #[.agg (cmdV z29), .bool false]) ∧ Below w.heap.size w w' := by
  obtain ⟨W1, hW1⟩ : ∃ W1, W1 = (w.alloc (.cells #[.int .i64 0, .int .i64 0, .string ⟨#[]⟩, .int .i32 0, .string ⟨#[]⟩, .string ⟨#[]⟩, .string ⟨#[]⟩, .string ⟨#[]⟩, .string ⟨#[]⟩, .string ⟨#[]⟩, .string ⟨#[]⟩, .string ⟨#[]⟩, .bool false, .string ⟨#[]⟩, .int .i64 0, .string ⟨#[]⟩] 29)).alloc (.cells #[.int .i64 0, .int .i64 0, .string ⟨#[]⟩, .int .i32 0, .string ⟨#[]⟩, .string ⟨#[]⟩, .string ⟨#[]⟩, .string ⟨#[]⟩, .string ⟨#[]⟩, .string ⟨#[]⟩, .string ⟨#[]⟩, .string ⟨#[]⟩, .bool false, .string ⟨#[]⟩, .int .i64 0, .string ⟨#[]⟩] 29) := ⟨_, rfl⟩
  have hT1 : Tabs W1 := by rw [hW1]; exact Tabs_below (Tabs_below hT ((Below.refl _ w).alloc (Nat.le_refl _) _)) ((Below.refl _ _).alloc (Nat.le_refl _) _)
  have hs1 : W1.heap.size = w.heap.size + 1 + 1 := by rw [hW1]; show ((w.heap.push _).push _).size = _; simp
  have hb1 : Below w.heap.size w W1 := by rw [hW1]; exact below_alloc (below_alloc (Below.refl _ w) _) _
  have hx1 : W1.heap[w.heap.size + 1]? = some (.cells (cmdV (recOf 0 0 0 0 false [])) 29 (0, 0)) := by
    have e : (w.alloc (.cells #[.int .i64 0, .int .i64 0, .string ⟨#[]⟩, .int .i32 0, .string ⟨#[]⟩, .string ⟨#[]⟩, .string ⟨#[]⟩, .string ⟨#[]⟩, .string ⟨#[]⟩, .string ⟨#[]⟩, .string ⟨#[]⟩, .string ⟨#[]⟩, .bool false, .string ⟨#[]⟩, .int .i64 0, .string ⟨#[]⟩] 29)).heap.size = w.heap.size + 1 := by show (w.heap.push _).size = _; simp
    rw [hW1, ← e]
    exact heap_alloc_new _ _
  have hr1 : W1.heap[w.heap.size]? = some (.cells (cmdV z29) 29 (0, 0)) := by
    rw [hW1]
    exact (Below.heap_alloc _ _ _ (by show _ < (w.heap.push _).size; simp)).trans (heap_alloc_new w _)
  have HW1 := Lib.hid hW1
  have HT1 := Lib.hid hT1
  have HH := Lib.hid h
  have HX1 := Lib.hid hx1
  have HR1 := Lib.hid hr1
  have HT := Lib.hid hT
  clear hW1 hT1 hT h hx1 hr1
  obtain ⟨ws, hws⟩ : ∃ ws, ws = wordsOf s := ⟨_, rfl⟩
  have hsp := split_calls s W1 HT1.out hs
  rw [← hws] at hsp
  have HSP := Lib.hid hsp
  have HWS := Lib.hid hws
  have hwl : ws.length ≤ 1000000002 := by rw [hws, wordsOf_len]; have := Lib.countB_le ⟨#[32]⟩ (Nat.le_refl _) _ s (Nat.le_refl _); omega
  clear hsp hws
  have hpw : Q.splitC 32 (U.L s) = ws.map U.L := by rw [HWS.out, wordsOf_map]
  by_cases h16 : ws.length = 16
  rotate_left
  · have hn : ((ws.length : Int) != 16) = true := bne_iff_ne.2 (by omega)
    clear hpw h16
    go_enter Tryd.func19, Tryd.ntmps19
    go_wp2_with (first
      | (go_at_call 26; rw [← HW1.out]; (with_reducible refine HSP.out.mono ?_); rintro e W3 ⟨rfl, hws3, hb3, hs3⟩)
      | (go_at_call 27; (with_reducible refine (texts_calls _ _).mono ?_); rintro e W4 ⟨rfl, hpl, hb4⟩; have hr4 := Lib.hid ((hb4.block w.heap.size (by omega)).trans ((hb3.block w.heap.size (by omega)).trans HR1.out)); have hrf := blk_frozen hr4.out; obtain ⟨q0, q1, q2, q3, q4, q5, q6, q7, q8, q9, q10, q11, q12, q13, q14, q15⟩ := zero_cells hr4.out; have hbw : Below w.heap.size w W4 := (hb1.trans (hb3.mono hb1.size)).trans (hb4.mono (by omega))))
    refine bodyPost_ret (results_cell_tmp rfl _ _ w.heap.size 29 (cmdV z29) (0, 0) _ rfl (store_all z29 z29 hr4.out) rfl rfl (by kernel_rfl)) rfl ⟨rfl, below_all z29 hbw (Nat.le_refl _)⟩
  have hn : ((ws.length : Int) != 16) = false := by rw [h16]; rfl
  have hwz : ∀ x ∈ ws, x.size ≤ s.size := fun x hx => wordsOf_le s x (by rw [← HWS.out]; exact hx)
  have HWZ := Lib.hid hwz
  have HPW := Lib.hid hpw
  have H16 := Lib.hid h16
  clear hwz hpw
  go_enter Tryd.func19, Tryd.ntmps19
  go_wp2_with (first
    | (go_at_call 26; rw [← HW1.out]; (with_reducible refine HSP.out.mono ?_); rintro e W3 ⟨rfl, hws3, hb3, hs3⟩)
    | (go_at_call 27; (with_reducible refine (texts_calls _ _).mono ?_); rintro e W4 ⟨rfl, hpl, hb4⟩))
  rw [hs1] at hws3 hs3
  have hr4 := (hb4.block w.heap.size (by omega)).trans ((hb3.block w.heap.size (by omega)).trans HR1.out)
  have hx4 := (hb4.block (w.heap.size + 1) (by omega)).trans ((hb3.block (w.heap.size + 1) (by omega)).trans HX1.out)
  have hw4 := (hb4.block (w.heap.size + 1 + 1) (by omega)).trans hws3
  rw [hs3] at hpl
  have hbw : Below w.heap.size w W4 := (hb1.trans (hb3.mono hb1.size)).trans (hb4.mono (by omega))
  clear hb4 hb3 hws3 h16
  go_loopw [28] (fun v28 wx => ∃ (i : Nat) (acc : List ByteArray), v28 = .int .i64 i ∧ i ≤ 11 ∧ acc.length = i ∧ wx.heap[w.heap.size]? = some (.cells (cmdV z29) 29 (0, 0)) ∧ wx.heap[w.heap.size + 1]? = some (.cells (cmdV (recOf 0 0 0 0 false acc)) 29 (0, 0)) ∧ wx.heap[w.heap.size + 1 + 1]? = some (.cells (ws.map Value.string).toArray 9 (0, 0)) ∧ wx.heap[w.heap.size + 1 + 1 + 1]? = some (.cells (placesV (w.heap.size + 1)) 66 (0, 0)) ∧ Below w.heap.size w wx ∧ Hid (Q.allSome ((((ws.map U.L).drop 5).take i).map Q.bytesX) = some (acc.map U.L))) (fun v28 wx => 11 - (RowKit.intOf v28).toNat)
  case atStart => exact ⟨0, [], rfl, Nat.zero_le _, rfl, hr4, hx4, hw4, hpl, hbw, Lib.hid rfl⟩
  case round =>
    clear hr4 hx4 hw4 hpl hbw
    obtain ⟨i, acc, rfl, hi11, hal, hr, hx, hw, hp, hb, hacc⟩ := hrel
    have hsz := hb.size
    by_cases hi : i < 11
    · obtain ⟨wd, hwd⟩ : ∃ wd, ws[5 + i]? = some wd := ⟨_, List.getElem?_eq_getElem (by rw [H16.out]; omega)⟩
      obtain ⟨o, hpo, ⟨u0, hu0⟩, hput⟩ := rec_put (w.heap.size + 1) 0 0 0 0 false acc (by omega)
      rw [hal] at hpo
      have hp0 := (blk_cell hp i).trans hpo
      have hia := fun W => idx_ptrs 11 11 i (w.heap.size + 1 + 1 + 1) W hi
      have hiw := fun W => idx_strs ws.length ws.length (5 + i) (w.heap.size + 1 + 1) W (by rw [H16.out]; omega)
      rw [show ((5 + i : Nat) : Int) = 5 + (i : Int) by omega] at hiw
      have hw0 : wr.cell? ⟨w.heap.size + 1 + 1, 5 + i, none⟩ = some (.string wd) := (blk_cell hw (5 + i)).trans (by simp [hwd])
      have hwz := HWZ.out wd (List.mem_of_getElem? hwd)
      obtain ⟨kh, hkh⟩ := Pure.unhex_ev wd (by omega)
      have hU := hkh kh (Nat.le_refl _)
      have hnext : ∀ a, Q.bytesX (U.L wd) = a → Q.allSome ((((ws.map U.L).drop 5).take (i + 1)).map Q.bytesX) = a.bind fun t => some (acc.map U.L ++ [t]) := fun a ha => by
        rw [List.take_add_one, List.map_append, Q.allSome_app, hacc.out]
        have : ((ws.map U.L).drop 5)[i]? = some (U.L wd) := by rw [List.getElem?_drop, List.getElem?_map, hwd]; rfl
        rw [this]
        simp only [Option.toList_some, List.map_cons, List.map_nil, Q.allSome, ha]
        cases a <;> rfl
      unfold Pure.bytesR at hU
      clear hkh hpo hwd
      cases hbx : Q.bytesX (U.L wd) with
      | none =>
        rw [hbx] at hU
        have HU := Lib.hid hU
        clear hnext hbx hU hput
        go_wp2_with (go_at_call 28; (with_reducible refine (script_unhex.calls kh wd _ _ _ HU.out).mono ?_); rintro e W5 ⟨rfl, b5⟩; have hr5 := Lib.hid (heap_keepsS b5 hr); have hb5 := below_step hb b5; have hrf := blk_frozen hr5.out; obtain ⟨q0, q1, q2, q3, q4, q5, q6, q7, q8, q9, q10, q11, q12, q13, q14, q15⟩ := zero_cells hr5.out)
        refine bodyPost_ret (results_cell_tmp rfl _ _ w.heap.size 29 (cmdV z29) (0, 0) _ rfl (store_all z29 z29 hr5.out) rfl rfl (by kernel_rfl)) rfl ⟨rfl, below_all z29 hb5 (Nat.le_refl _)⟩
      | some t =>
        rw [hbx] at hU
        have HU := Lib.hid hU
        have HN := Lib.hid (hnext (some t) hbx)
        clear hnext hbx hU
        go_wp2_with (go_at_call 28; (with_reducible refine (script_unhex.calls kh wd _ _ _ HU.out).mono ?_); rintro e W5 ⟨rfl, b5⟩; have hr5 := heap_keepsS b5 hr; have hx5 := heap_keepsS b5 hx; have hw5 := heap_keepsS b5 hw; have hp5 := heap_keepsS b5 hp; have hb5 := below_step hb b5; have hxf := blk_frozen hx5 o; have hxc := (blk_cell hx5 o).trans hu0; have hxs := hb5.size)
        go_roundw
        case rel =>
          refine ⟨i + 1, acc ++ [mkB t], by go_num, by omega, by simp [hal], (blk_far hr5 (by show w.heap.size ≠ w.heap.size + 1; omega) _), blk_put2 hx5 o _ (hput _), (blk_far hw5 (by show w.heap.size + 1 + 1 ≠ w.heap.size + 1; omega) _), (blk_far hp5 (by show w.heap.size + 1 + 1 + 1 ≠ w.heap.size + 1; omega) _), below_set hb5 (by show w.heap.size ≤ w.heap.size + 1; omega), Lib.hid ?_⟩
          rw [HN.out, List.map_append]
          simp [mkB, U.L_mk]
        case measure => simp [RowKit.intOf]; omega
    · have hie : i = 11 := by omega
      rw [show ((i : Nat) : Int) = 11 by omega]
      subst hie
      have hts : Q.allSome (((ws.map U.L).drop 5).map Q.bytesX) = some (acc.map U.L) := by
        have := hacc.out
        rwa [List.take_of_length_le (by rw [List.length_drop, List.length_map, H16.out]; omega)] at this
      have HTS := Lib.hid hts
      have hlx := blk_lt hp
      clear hts hacc hp hi hi11
      go_wp2
      obtain ⟨Z, hZ⟩ : ∃ Z, Z = wr.heap.size := ⟨_, rfl⟩
      obtain ⟨W6, hW6⟩ : ∃ W6, W6 = (wr.alloc (.cells #[.int .i64 0] 3)).alloc (.cells #[.pointer (some ⟨w.heap.size + 1, 0, none⟩), .pointer (some ⟨w.heap.size + 1, 1, none⟩), .pointer (some ⟨wr.heap.size, 0, none⟩), .pointer (some ⟨w.heap.size + 1, 14, none⟩)] 67) := ⟨_, rfl⟩
      rw [← hW6]
      have e1 : (wr.alloc (.cells #[.int .i64 0] 3)).heap.size = Z + 1 := by rw [hZ]; show (wr.heap.push _).size = _; simp
      have b6 : Below wr.heap.size wr W6 := by rw [hW6]; exact below_alloc (below_alloc (Below.refl _ wr) _) _
      have hz6 : W6.heap[Z]? = some (.cells #[.int .i64 (([] : List Int).getD 2 0)] 3 (0, 0)) := by
        rw [hW6, hZ]
        exact (Below.heap_alloc _ _ _ (by rw [e1, hZ]; omega)).trans (heap_alloc_new wr _)
      have hq6 : W6.heap[Z + 1]? = some (.cells (numsV (w.heap.size + 1) Z) 67 (0, 0)) := by
        rw [hW6, ← e1, hZ]
        exact heap_alloc_new _ _
      have hr6 := heap_keepsS b6 hr
      have hx6 : W6.heap[w.heap.size + 1]? = some (.cells (cmdV (recK [] acc)) 29 (0, 0)) := heap_keepsS b6 hx
      have hw6 := heap_keepsS b6 hw
      have hb6 := below_step hb b6
      rw [← hZ]
      rw [← hZ] at hlx
      clear hW6 e1 b6 hr hx hw hb hsz hZ
      go_loopw [55] (fun v55 wx => ∃ (j : Nat) (ks : List Int), v55 = .int .i64 j ∧ j ≤ 4 ∧ ks.length = j ∧ wx.heap[w.heap.size]? = some (.cells (cmdV z29) 29 (0, 0)) ∧ wx.heap[w.heap.size + 1]? = some (.cells (cmdV (recK ks acc)) 29 (0, 0)) ∧ wx.heap[w.heap.size + 1 + 1]? = some (.cells (ws.map Value.string).toArray 9 (0, 0)) ∧ wx.heap[Z]? = some (.cells #[.int .i64 (ks.getD 2 0)] 3 (0, 0)) ∧ wx.heap[Z + 1]? = some (.cells (numsV (w.heap.size + 1) Z) 67 (0, 0)) ∧ Below w.heap.size w wx ∧ Hid (Q.allSome (((ws.map U.L).take j).map fun x => Q.okOf (Lib.atoiAll x)) = some ks)) (fun v55 wx => 4 - (RowKit.intOf v55).toNat)
      case atStart => exact ⟨0, [], rfl, Nat.zero_le _, rfl, hr6, hx6, hw6, hz6, hq6, hb6, Lib.hid rfl⟩
      case round =>
        clear hr6 hx6 hw6 hz6 hq6 hb6
        obtain ⟨j, ks, rfl, hj4, hkl, hr, hx, hw, hz, hq, hb, hks⟩ := hrel
        have hsz := hb.size
        have hne : w.heap.size + 1 ≠ Z := by omega
        by_cases hj : j < 4
        · obtain ⟨wd, hwd⟩ : ∃ wd, ws[j]? = some wd := ⟨_, List.getElem?_eq_getElem (by rw [H16.out]; omega)⟩
          obtain ⟨b, o, hpo, hbb, hput⟩ := num_put (w.heap.size + 1) Z hne ks acc (by omega)
          rw [hkl] at hpo
          have hp0 := (blk_cell hq j).trans hpo
          have hia := fun W => idx_ints 4 4 j (Z + 1) W hj
          have hiw := fun W => idx_strs 16 16 j (w.heap.size + 1 + 1) W (by omega)
          have hw0 : wr.cell? ⟨w.heap.size + 1 + 1, j, none⟩ = some (.string wd) := (blk_cell hw j).trans (by simp [hwd])
          have hwz := HWZ.out wd (List.mem_of_getElem? hwd)
          have hnext : ∀ a, Q.okOf (Lib.atoiAll (U.L wd)) = a → Q.allSome (((ws.map U.L).take (j + 1)).map fun x => Q.okOf (Lib.atoiAll x)) = a.bind fun t => some (ks ++ [t]) := fun a ha => by
            rw [List.take_add_one, List.map_append, Q.allSome_app, hks.out]
            have : (ws.map U.L)[j]? = some (U.L wd) := by rw [List.getElem?_map, hwd]; rfl
            rw [this]
            simp only [Option.toList_some, List.map_cons, List.map_nil, Q.allSome, ha]
            cases a <;> rfl
          clear hpo hwd
          cases hat : Q.okOf (Lib.atoiAll (U.L wd)) with
          | none =>
            have HAT := Lib.hid hat
            clear hnext hat hput
            go_wp2_with (go_at_call 29; (with_reducible refine (atoi_no wd HAT.out (by omega) _ (Tabs_below HT.out hb)).mono ?_); rintro e W5 ⟨n5, N5, rfl, b5⟩; have hr5 := Lib.hid (heap_keepsS b5 hr); have hb5 := below_step hb b5; have hrf := blk_frozen hr5.out; obtain ⟨q0, q1, q2, q3, q4, q5, q6, q7, q8, q9, q10, q11, q12, q13, q14, q15⟩ := zero_cells hr5.out)
            refine bodyPost_ret (results_cell_tmp rfl _ _ w.heap.size 29 (cmdV z29) (0, 0) _ rfl (store_all z29 z29 hr5.out) rfl rfl (by kernel_rfl)) rfl ⟨rfl, below_all z29 hb5 (Nat.le_refl _)⟩
          | some v =>
            have HAT := Lib.hid hat
            have HN := Lib.hid (hnext (some v) hat)
            have HP := Lib.hid hput
            clear hnext hat hput
            go_wp2_with (go_at_call 29; (with_reducible refine (atoi_ok wd v HAT.out (by omega) _).mono ?_); rintro e W5 ⟨rfl, b5⟩; have hr5 := heap_keepsS b5 hr; have hx5 := heap_keepsS b5 hx; have hw5 := heap_keepsS b5 hw; have hz5 := heap_keepsS b5 hz; have hq5 := heap_keepsS b5 hq; have hb5 := below_step hb b5; obtain ⟨⟨u0, hxc⟩, hxf, hxn⟩ := HP.out W5 hx5 hz5; have hxs := hb5.size)
            go_roundw
            case rel =>
              have hbR : w.heap.size ≠ b ∧ w.heap.size + 1 + 1 ≠ b ∧ Z + 1 ≠ b ∧ w.heap.size ≤ b := by rcases hbb with rfl | rfl <;> omega
              refine ⟨j + 1, ks ++ [v], by go_num, by omega, by simp [hkl], blk_far hr5 hbR.1 _, (hxn v).1, blk_far hw5 hbR.2.1 _, (hxn v).2, blk_far hq5 hbR.2.2.1 _, below_set hb5 hbR.2.2.2, Lib.hid ?_⟩
              rw [HN.out]
              rfl
            case measure => simp [RowKit.intOf]; omega
        · have hje : j = 4 := by omega
          subst hje
          obtain ⟨hprog, _⟩ := Q.prog_nums (l := ws.map U.L) (by rw [List.length_map]; exact H16.out) HTS.out hks.out
          have hh := HH.out
          rw [HPW.out, hprog] at hh
          cases hh

set_option maxHeartbeats 8000000 in
set_option maxRecDepth 1000000 in
theorem read_ok (s : ByteArray) (cm0 : Q.Cm) (w : World) (hT : Tabs w) (hs : s.size ≤ 1000000000) (h : Q.progP (Q.splitC 32 (U.L s)) = some cm0) :
    Calls Tryd.prog 19 #[.string s] w fun e w' => e = .returned (.tuple #[.agg (cmdV (ofCm cm0)), .bool (decide (Q.lineL cm0 = U.L s))]) ∧ Below w.heap.size w w' := by
  obtain ⟨W1, hW1⟩ : ∃ W1, W1 = (w.alloc (.cells #[.int .i64 0, .int .i64 0, .string ⟨#[]⟩, .int .i32 0, .string ⟨#[]⟩, .string ⟨#[]⟩, .string ⟨#[]⟩, .string ⟨#[]⟩, .string ⟨#[]⟩, .string ⟨#[]⟩, .string ⟨#[]⟩, .string ⟨#[]⟩, .bool false, .string ⟨#[]⟩, .int .i64 0, .string ⟨#[]⟩] 29)).alloc (.cells #[.int .i64 0, .int .i64 0, .string ⟨#[]⟩, .int .i32 0, .string ⟨#[]⟩, .string ⟨#[]⟩, .string ⟨#[]⟩, .string ⟨#[]⟩, .string ⟨#[]⟩, .string ⟨#[]⟩, .string ⟨#[]⟩, .string ⟨#[]⟩, .bool false, .string ⟨#[]⟩, .int .i64 0, .string ⟨#[]⟩] 29) := ⟨_, rfl⟩
  have hT1 : Tabs W1 := by rw [hW1]; exact Tabs_below (Tabs_below hT ((Below.refl _ w).alloc (Nat.le_refl _) _)) ((Below.refl _ _).alloc (Nat.le_refl _) _)
  have hs1 : W1.heap.size = w.heap.size + 1 + 1 := by rw [hW1]; show ((w.heap.push _).push _).size = _; simp
  have hb1 : Below w.heap.size w W1 := by rw [hW1]; exact below_alloc (below_alloc (Below.refl _ w) _) _
  have hx1 : W1.heap[w.heap.size + 1]? = some (.cells (cmdV (recOf 0 0 0 0 false [])) 29 (0, 0)) := by
    have e : (w.alloc (.cells #[.int .i64 0, .int .i64 0, .string ⟨#[]⟩, .int .i32 0, .string ⟨#[]⟩, .string ⟨#[]⟩, .string ⟨#[]⟩, .string ⟨#[]⟩, .string ⟨#[]⟩, .string ⟨#[]⟩, .string ⟨#[]⟩, .string ⟨#[]⟩, .bool false, .string ⟨#[]⟩, .int .i64 0, .string ⟨#[]⟩] 29)).heap.size = w.heap.size + 1 := by show (w.heap.push _).size = _; simp
    rw [hW1, ← e]
    exact heap_alloc_new _ _
  have hr1 : W1.heap[w.heap.size]? = some (.cells (cmdV z29) 29 (0, 0)) := by
    rw [hW1]
    exact (Below.heap_alloc _ _ _ (by show _ < (w.heap.push _).size; simp)).trans (heap_alloc_new w _)
  have HW1 := Lib.hid hW1
  have HT1 := Lib.hid hT1
  have HH := Lib.hid h
  have HX1 := Lib.hid hx1
  have HR1 := Lib.hid hr1
  have HT := Lib.hid hT
  clear hW1 hT1 hT h hx1 hr1
  obtain ⟨ws, hws⟩ : ∃ ws, ws = wordsOf s := ⟨_, rfl⟩
  have hsp := split_calls s W1 HT1.out hs
  rw [← hws] at hsp
  have HSP := Lib.hid hsp
  have HWS := Lib.hid hws
  have hwl : ws.length ≤ 1000000002 := by rw [hws, wordsOf_len]; have := Lib.countB_le ⟨#[32]⟩ (Nat.le_refl _) _ s (Nat.le_refl _); omega
  clear hsp hws
  have hpw : Q.splitC 32 (U.L s) = ws.map U.L := by rw [HWS.out, wordsOf_map]
  by_cases h16 : ws.length = 16
  rotate_left
  · exfalso
    have hp : Q.progP (Q.splitC 32 (U.L s)) = none := by unfold Q.progP; rw [hpw, if_neg (by rw [List.length_map]; exact h16)]
    have hh := HH.out
    rw [hp] at hh
    cases hh
  have hn : ((ws.length : Int) != 16) = false := by rw [h16]; rfl
  have hwz : ∀ x ∈ ws, x.size ≤ s.size := fun x hx => wordsOf_le s x (by rw [← HWS.out]; exact hx)
  have HWZ := Lib.hid hwz
  have HPW := Lib.hid hpw
  have H16 := Lib.hid h16
  clear hwz hpw
  go_enter Tryd.func19, Tryd.ntmps19
  go_wp2_with (first
    | (go_at_call 26; rw [← HW1.out]; (with_reducible refine HSP.out.mono ?_); rintro e W3 ⟨rfl, hws3, hb3, hs3⟩)
    | (go_at_call 27; (with_reducible refine (texts_calls _ _).mono ?_); rintro e W4 ⟨rfl, hpl, hb4⟩))
  rw [hs1] at hws3 hs3
  have hr4 := (hb4.block w.heap.size (by omega)).trans ((hb3.block w.heap.size (by omega)).trans HR1.out)
  have hx4 := (hb4.block (w.heap.size + 1) (by omega)).trans ((hb3.block (w.heap.size + 1) (by omega)).trans HX1.out)
  have hw4 := (hb4.block (w.heap.size + 1 + 1) (by omega)).trans hws3
  rw [hs3] at hpl
  have hbw : Below w.heap.size w W4 := (hb1.trans (hb3.mono hb1.size)).trans (hb4.mono (by omega))
  clear hb4 hb3 hws3 h16
  go_loopw [28] (fun v28 wx => ∃ (i : Nat) (acc : List ByteArray), v28 = .int .i64 i ∧ i ≤ 11 ∧ acc.length = i ∧ wx.heap[w.heap.size]? = some (.cells (cmdV z29) 29 (0, 0)) ∧ wx.heap[w.heap.size + 1]? = some (.cells (cmdV (recOf 0 0 0 0 false acc)) 29 (0, 0)) ∧ wx.heap[w.heap.size + 1 + 1]? = some (.cells (ws.map Value.string).toArray 9 (0, 0)) ∧ wx.heap[w.heap.size + 1 + 1 + 1]? = some (.cells (placesV (w.heap.size + 1)) 66 (0, 0)) ∧ Below w.heap.size w wx ∧ Hid (Q.allSome ((((ws.map U.L).drop 5).take i).map Q.bytesX) = some (acc.map U.L))) (fun v28 wx => 11 - (RowKit.intOf v28).toNat)
  case atStart => exact ⟨0, [], rfl, Nat.zero_le _, rfl, hr4, hx4, hw4, hpl, hbw, Lib.hid rfl⟩
  case round =>
    clear hr4 hx4 hw4 hpl hbw
    obtain ⟨i, acc, rfl, hi11, hal, hr, hx, hw, hp, hb, hacc⟩ := hrel
    have hsz := hb.size
    by_cases hi : i < 11
    · obtain ⟨wd, hwd⟩ : ∃ wd, ws[5 + i]? = some wd := ⟨_, List.getElem?_eq_getElem (by rw [H16.out]; omega)⟩
      obtain ⟨o, hpo, ⟨u0, hu0⟩, hput⟩ := rec_put (w.heap.size + 1) 0 0 0 0 false acc (by omega)
      rw [hal] at hpo
      have hp0 := (blk_cell hp i).trans hpo
      have hia := fun W => idx_ptrs 11 11 i (w.heap.size + 1 + 1 + 1) W hi
      have hiw := fun W => idx_strs ws.length ws.length (5 + i) (w.heap.size + 1 + 1) W (by rw [H16.out]; omega)
      rw [show ((5 + i : Nat) : Int) = 5 + (i : Int) by omega] at hiw
      have hw0 : wr.cell? ⟨w.heap.size + 1 + 1, 5 + i, none⟩ = some (.string wd) := (blk_cell hw (5 + i)).trans (by simp [hwd])
      have hwz := HWZ.out wd (List.mem_of_getElem? hwd)
      obtain ⟨kh, hkh⟩ := Pure.unhex_ev wd (by omega)
      have hU := hkh kh (Nat.le_refl _)
      have hnext : ∀ a, Q.bytesX (U.L wd) = a → Q.allSome ((((ws.map U.L).drop 5).take (i + 1)).map Q.bytesX) = a.bind fun t => some (acc.map U.L ++ [t]) := fun a ha => by
        rw [List.take_add_one, List.map_append, Q.allSome_app, hacc.out]
        have : ((ws.map U.L).drop 5)[i]? = some (U.L wd) := by rw [List.getElem?_drop, List.getElem?_map, hwd]; rfl
        rw [this]
        simp only [Option.toList_some, List.map_cons, List.map_nil, Q.allSome, ha]
        cases a <;> rfl
      unfold Pure.bytesR at hU
      clear hkh hpo hwd
      cases hbx : Q.bytesX (U.L wd) with
      | none =>
        rw [hbx] at hU
        have HU := Lib.hid hU
        have hn2 := hnext none hbx
        have hpn : Q.progP (Q.splitC 32 (U.L s)) = none := by
          unfold Q.progP
          rw [HPW.out, Q.allSome_part _ _ hn2]
          split <;> rfl
        have hh := HH.out
        rw [hpn] at hh
        cases hh
      | some t =>
        rw [hbx] at hU
        have HU := Lib.hid hU
        have HN := Lib.hid (hnext (some t) hbx)
        clear hnext hbx hU
        go_wp2_with (go_at_call 28; (with_reducible refine (script_unhex.calls kh wd _ _ _ HU.out).mono ?_); rintro e W5 ⟨rfl, b5⟩; have hr5 := heap_keepsS b5 hr; have hx5 := heap_keepsS b5 hx; have hw5 := heap_keepsS b5 hw; have hp5 := heap_keepsS b5 hp; have hb5 := below_step hb b5; have hxf := blk_frozen hx5 o; have hxc := (blk_cell hx5 o).trans hu0; have hxs := hb5.size)
        go_roundw
        case rel =>
          refine ⟨i + 1, acc ++ [mkB t], by go_num, by omega, by simp [hal], (blk_far hr5 (by show w.heap.size ≠ w.heap.size + 1; omega) _), blk_put2 hx5 o _ (hput _), (blk_far hw5 (by show w.heap.size + 1 + 1 ≠ w.heap.size + 1; omega) _), (blk_far hp5 (by show w.heap.size + 1 + 1 + 1 ≠ w.heap.size + 1; omega) _), below_set hb5 (by show w.heap.size ≤ w.heap.size + 1; omega), Lib.hid ?_⟩
          rw [HN.out, List.map_append]
          simp [mkB, U.L_mk]
        case measure => simp [RowKit.intOf]; omega
    · have hie : i = 11 := by omega
      rw [show ((i : Nat) : Int) = 11 by omega]
      subst hie
      have hts : Q.allSome (((ws.map U.L).drop 5).map Q.bytesX) = some (acc.map U.L) := by
        have := hacc.out
        rwa [List.take_of_length_le (by rw [List.length_drop, List.length_map, H16.out]; omega)] at this
      have HTS := Lib.hid hts
      have hlx := blk_lt hp
      clear hts hacc hp hi hi11
      go_wp2
      obtain ⟨Z, hZ⟩ : ∃ Z, Z = wr.heap.size := ⟨_, rfl⟩
      obtain ⟨W6, hW6⟩ : ∃ W6, W6 = (wr.alloc (.cells #[.int .i64 0] 3)).alloc (.cells #[.pointer (some ⟨w.heap.size + 1, 0, none⟩), .pointer (some ⟨w.heap.size + 1, 1, none⟩), .pointer (some ⟨wr.heap.size, 0, none⟩), .pointer (some ⟨w.heap.size + 1, 14, none⟩)] 67) := ⟨_, rfl⟩
      rw [← hW6]
      have e1 : (wr.alloc (.cells #[.int .i64 0] 3)).heap.size = Z + 1 := by rw [hZ]; show (wr.heap.push _).size = _; simp
      have b6 : Below wr.heap.size wr W6 := by rw [hW6]; exact below_alloc (below_alloc (Below.refl _ wr) _) _
      have hz6 : W6.heap[Z]? = some (.cells #[.int .i64 (([] : List Int).getD 2 0)] 3 (0, 0)) := by
        rw [hW6, hZ]
        exact (Below.heap_alloc _ _ _ (by rw [e1, hZ]; omega)).trans (heap_alloc_new wr _)
      have hq6 : W6.heap[Z + 1]? = some (.cells (numsV (w.heap.size + 1) Z) 67 (0, 0)) := by
        rw [hW6, ← e1, hZ]
        exact heap_alloc_new _ _
      have hr6 := heap_keepsS b6 hr
      have hx6 : W6.heap[w.heap.size + 1]? = some (.cells (cmdV (recK [] acc)) 29 (0, 0)) := heap_keepsS b6 hx
      have hw6 := heap_keepsS b6 hw
      have hb6 := below_step hb b6
      rw [← hZ]
      rw [← hZ] at hlx
      clear hW6 e1 b6 hr hx hw hb hsz hZ
      go_loopw [55] (fun v55 wx => ∃ (j : Nat) (ks : List Int), v55 = .int .i64 j ∧ j ≤ 4 ∧ ks.length = j ∧ wx.heap[w.heap.size]? = some (.cells (cmdV z29) 29 (0, 0)) ∧ wx.heap[w.heap.size + 1]? = some (.cells (cmdV (recK ks acc)) 29 (0, 0)) ∧ wx.heap[w.heap.size + 1 + 1]? = some (.cells (ws.map Value.string).toArray 9 (0, 0)) ∧ wx.heap[Z]? = some (.cells #[.int .i64 (ks.getD 2 0)] 3 (0, 0)) ∧ wx.heap[Z + 1]? = some (.cells (numsV (w.heap.size + 1) Z) 67 (0, 0)) ∧ Below w.heap.size w wx ∧ Hid (Q.allSome (((ws.map U.L).take j).map fun x => Q.okOf (Lib.atoiAll x)) = some ks)) (fun v55 wx => 4 - (RowKit.intOf v55).toNat)
      case atStart => exact ⟨0, [], rfl, Nat.zero_le _, rfl, hr6, hx6, hw6, hz6, hq6, hb6, Lib.hid rfl⟩
      case round =>
        clear hr6 hx6 hw6 hz6 hq6 hb6
        obtain ⟨j, ks, rfl, hj4, hkl, hr, hx, hw, hz, hq, hb, hks⟩ := hrel
        have hsz := hb.size
        have hne : w.heap.size + 1 ≠ Z := by omega
        by_cases hj : j < 4
        · obtain ⟨wd, hwd⟩ : ∃ wd, ws[j]? = some wd := ⟨_, List.getElem?_eq_getElem (by rw [H16.out]; omega)⟩
          obtain ⟨b, o, hpo, hbb, hput⟩ := num_put (w.heap.size + 1) Z hne ks acc (by omega)
          rw [hkl] at hpo
          have hp0 := (blk_cell hq j).trans hpo
          have hia := fun W => idx_ints 4 4 j (Z + 1) W hj
          have hiw := fun W => idx_strs 16 16 j (w.heap.size + 1 + 1) W (by omega)
          have hw0 : wr.cell? ⟨w.heap.size + 1 + 1, j, none⟩ = some (.string wd) := (blk_cell hw j).trans (by simp [hwd])
          have hwz := HWZ.out wd (List.mem_of_getElem? hwd)
          have hnext : ∀ a, Q.okOf (Lib.atoiAll (U.L wd)) = a → Q.allSome (((ws.map U.L).take (j + 1)).map fun x => Q.okOf (Lib.atoiAll x)) = a.bind fun t => some (ks ++ [t]) := fun a ha => by
            rw [List.take_add_one, List.map_append, Q.allSome_app, hks.out]
            have : (ws.map U.L)[j]? = some (U.L wd) := by rw [List.getElem?_map, hwd]; rfl
            rw [this]
            simp only [Option.toList_some, List.map_cons, List.map_nil, Q.allSome, ha]
            cases a <;> rfl
          clear hpo hwd
          cases hat : Q.okOf (Lib.atoiAll (U.L wd)) with
          | none =>
            have hpn : Q.progP (Q.splitC 32 (U.L s)) = none := by
              rw [HPW.out]
              exact Q.prog_fail (j + 1) (by omega) (hnext none hat)
            have hh := HH.out
            rw [hpn] at hh
            cases hh
          | some v =>
            have HAT := Lib.hid hat
            have HN := Lib.hid (hnext (some v) hat)
            have HP := Lib.hid hput
            clear hnext hat hput
            go_wp2_with (go_at_call 29; (with_reducible refine (atoi_ok wd v HAT.out (by omega) _).mono ?_); rintro e W5 ⟨rfl, b5⟩; have hr5 := heap_keepsS b5 hr; have hx5 := heap_keepsS b5 hx; have hw5 := heap_keepsS b5 hw; have hz5 := heap_keepsS b5 hz; have hq5 := heap_keepsS b5 hq; have hb5 := below_step hb b5; obtain ⟨⟨u0, hxc⟩, hxf, hxn⟩ := HP.out W5 hx5 hz5; have hxs := hb5.size)
            go_roundw
            case rel =>
              have hbR : w.heap.size ≠ b ∧ w.heap.size + 1 + 1 ≠ b ∧ Z + 1 ≠ b ∧ w.heap.size ≤ b := by rcases hbb with rfl | rfl <;> omega
              refine ⟨j + 1, ks ++ [v], by go_num, by omega, by simp [hkl], blk_far hr5 hbR.1 _, (hxn v).1, blk_far hw5 hbR.2.1 _, (hxn v).2, blk_far hq5 hbR.2.2.1 _, below_set hb5 hbR.2.2.2, Lib.hid ?_⟩
              rw [HN.out]
              rfl
            case measure => simp [RowKit.intOf]; omega
        · have hje : j = 4 := by omega
          subst hje
          obtain ⟨hprog, _⟩ := Q.prog_nums (l := ws.map U.L) (by rw [List.length_map]; exact H16.out) HTS.out hks.out
          have hh := HH.out
          rw [HPW.out, hprog] at hh
          obtain ⟨w4, hw4⟩ : ∃ w4, ws[4]? = some w4 := ⟨_, List.getElem?_eq_getElem (by rw [H16.out]; omega)⟩
          have hw40 : (ws.map U.L).getD 4 [] = U.L w4 := by rw [List.getD_eq_getElem?_getD, List.getElem?_map, hw4]; rfl
          rw [hw40] at hh
          have hw0 : wr.cell? ⟨w.heap.size + 1 + 1, 4, none⟩ = some (.string w4) := (blk_cell hw 4).trans (by simp [hw4])
          obtain ⟨zz, hzz⟩ : ∃ zz, zz = ks.getD 2 0 := ⟨_, rfl⟩
          rw [← hzz] at hh hz
          obtain ⟨cm, hcm⟩ : ∃ cm : Q.Cm, cm = ⟨ks.getD 0 0, ks.getD 1 0, Q.z32 zz, ks.getD 3 0, decide (U.L w4 = [49]), acc.map U.L⟩ := ⟨_, rfl⟩
          rw [← hcm] at hh
          obtain rfl := Option.some.inj hh
          have hok : cm.ok := by
            have := Q.prog_ok _ _ hprog
            rwa [hw40, ← hzz, ← hcm] at this
          have hacs : ∀ x ∈ acc, x.size ≤ 1000000000 := fun x hx => by
            have h5 := Q.allSome_inv Q.bytesX Q.textW Q.text_bytes _ _ HTS.out
            have hm : Q.textW (U.L x) ∈ (ws.map U.L).drop 5 := by rw [h5]; exact List.mem_map_of_mem (List.mem_map_of_mem hx)
            obtain ⟨v, hv, hve⟩ := List.mem_map.1 (List.mem_of_mem_drop hm)
            have hvl := HWZ.out v hv
            have := congrArg List.length hve
            unfold Q.textW at this
            rw [U.L_len, List.length_cons, Q.hexL_len, U.L_len] at this
            omega
          obtain ⟨y, hy⟩ : ∃ y, y = ofCm cm := ⟨_, rfl⟩
          have hlb : lineB y = ⟨(Q.lineL cm ++ [10]).toArray⟩ := by unfold lineB; rw [hy, cm_of cm hok]
          have hyt : ∀ x ∈ tsB y, x.size ≤ 1000000000 := by
            rw [hy, hcm]
            refine tsB_le (fun x hx => ?_)
            obtain ⟨v, hv, rfl⟩ := List.mem_map.1 hx
            obtain ⟨u, hu, rfl⟩ := List.mem_map.1 hv
            have := hacs u hu
            unfold mkB
            rwa [U.mk_L]
          obtain ⟨g1, g2, g3, g4, _⟩ := hok
          have hln : ∀ W, Tabs W → _ := fun W hT => line_calls y W hT (by rw [hy]; exact g1) (by rw [hy]; exact g2) (by rw [hy]; exact g3) (by rw [hy]; exact g4) hyt
          have hwl := words_len y (by rw [hy]; exact g1) (by rw [hy]; exact g2) (by rw [hy]; exact g3) (by rw [hy]; exact g4) hyt
          have hz1 : (lineB y).size ≤ 100000000001 := by unfold lineB; rw [U.size_mk, List.length_append]; simp; omega
          have hxy : ∀ W : World, W.heap[w.heap.size + 1]? = some (.cells (cmdV (recK ks acc)) 29 (0, 0)) → ((W.setCell ⟨w.heap.size + 1, 3, none⟩ (.int .i32 (wrap32 zz))).setCell ⟨w.heap.size + 1, 12, none⟩ (.bool (w4.toList == [49]))).heap[w.heap.size + 1]? = some (.cells (cmdV y) 29 (0, 0)) := fun W hW => by
            have eb : (w4.toList == [49]) = decide (U.L w4 = [49]) := by
              rw [U.toList_L]
              by_cases e : U.L w4 = [49]
              · rw [decide_eq_true e, e]; rfl
              · rw [decide_eq_false e]; exact beq_eq_false_iff_ne.2 e
            have ez : wrap32 zz = Q.z32 zz := by unfold wrap32 Q.z32; omega
            have et : (acc.map U.L).map mkB = acc := by
              rw [List.map_map]
              have : (mkB ∘ U.L) = id := funext fun x => U.mk_L x
              rw [this, List.map_id]
            rw [blk_set (blk_set hW 3 _) 12 _, hy, hcm, eb, ez]
            unfold ofCm
            simp only
            rw [et]
            simp [cmdV, recK, recOf]
          have HY := Lib.hid hy
          have hzc : wr.cell? ⟨Z, 0, none⟩ = some (.int .i64 zz) := blk_cell hz 0
          have hx3 : wr.cell? ⟨w.heap.size + 1, 3, none⟩ = some (.int .i32 0) := blk_cell hx 3
          have hx12 : wr.cell? ⟨w.heap.size + 1, 12, none⟩ = some (.bool false) := blk_cell hx 12
          have hxf := blk_frozen hx
          have HXY := Lib.hid hxy
          have HLN := Lib.hid hln
          have HLB := Lib.hid hlb
          clear hh hprog hw40 hw4 hzz hcm hy hxy hln hlb g1 g2 g3 g4 hyt hacs hwl
          go_wp2
          go_region
          obtain ⟨W8, hW8⟩ : ∃ W8, W8 = ((wr.setCell ⟨w.heap.size + 1, 3, none⟩ (.int .i32 (wrap32 zz))).setCell ⟨w.heap.size + 1, 12, none⟩ (.bool (w4.toList == [49]))).drew := ⟨_, rfl⟩
          rw [← hW8]
          have hx8 : W8.heap[w.heap.size + 1]? = some (.cells (cmdV y) 29 (0, 0)) := by rw [hW8]; exact blk_drew (HXY.out wr hx)
          have hr8 : W8.heap[w.heap.size]? = some (.cells (cmdV z29) 29 (0, 0)) := by
            rw [hW8]
            exact blk_drew (blk_far (blk_far hr (show w.heap.size ≠ w.heap.size + 1 by omega) _) (show w.heap.size ≠ w.heap.size + 1 by omega) _)
          have hb8 : Below w.heap.size w W8 := by rw [hW8]; exact below_drew1 (below_set (below_set hb (show w.heap.size ≤ w.heap.size + 1 by omega)) (show w.heap.size ≤ w.heap.size + 1 by omega))
          clear hW8 hr hx hw hz hq hb hsz hzc hx3 hx12 hxf hw0 hj4 hj hne HXY hal
          obtain ⟨lb, hlbv⟩ : ∃ lb, lb = lineB y := ⟨_, rfl⟩
          have hl := HLN.out
          rw [← hlbv] at hl hz1
          have HLB2 := Lib.hid hlbv
          clear hlbv HLN
          obtain ⟨k, m, p, ⟨z, s1, s2, s3, s4, s5, s6, s7, s8⟩, ⟨neg, dg, ex⟩, tt⟩ := y
          have HX8 := Lib.hid hx8
          have HR8 := Lib.hid hr8
          have HB8 := Lib.hid hb8
          unfold cmdV at hl
          simp only at hl
          have HL := Lib.hid hl
          obtain ⟨a0, a1, a2, a3, a4, a5, a6, a7, a8, a9, a10, a11, a12, a13, a14, a15⟩ := all_cells _ hx8
          simp only at a0 a1 a2 a3 a4 a5 a6 a7 a8 a9 a10 a11 a12 a13 a14 a15
          obtain ⟨q0, q1, q2, q3, q4, q5, q6, q7, q8, q9, q10, q11, q12, q13, q14, q15⟩ := zero_cells hr8
          have hrf := blk_frozen hr8
          clear hl hx8 hr8 hb8
          go_wp2
          have hsa : s.size + 1 ≤ 9223372036854775807 := by omega
          have hsc : ¬ (9223372036854775807 ≤ s.size) := by omega
          have hsd : ¬ (9223372036854775807 < s.size + 1) := by omega
          have hse : ¬ (9223372036854775807 < s.size + (⟨#[10]⟩ : ByteArray).size) := by show ¬ (_ < s.size + 1); omega
          go_region_held3 (fun w' => w'.cell? ⟨w.heap.size + 1, 0, none⟩ = some (.int .i64 k) ∧ w'.cell? ⟨w.heap.size + 1, 1, none⟩ = some (.int .i64 m) ∧ w'.cell? ⟨w.heap.size + 1, 2, none⟩ = some (.string p) ∧ w'.cell? ⟨w.heap.size + 1, 3, none⟩ = some (.int .i32 z) ∧ w'.cell? ⟨w.heap.size + 1, 4, none⟩ = some (.string s1) ∧ w'.cell? ⟨w.heap.size + 1, 5, none⟩ = some (.string s2) ∧ w'.cell? ⟨w.heap.size + 1, 6, none⟩ = some (.string s3) ∧ w'.cell? ⟨w.heap.size + 1, 7, none⟩ = some (.string s4) ∧ w'.cell? ⟨w.heap.size + 1, 8, none⟩ = some (.string s5) ∧ w'.cell? ⟨w.heap.size + 1, 9, none⟩ = some (.string s6) ∧ w'.cell? ⟨w.heap.size + 1, 10, none⟩ = some (.string s7) ∧ w'.cell? ⟨w.heap.size + 1, 11, none⟩ = some (.string s8) ∧ w'.cell? ⟨w.heap.size + 1, 12, none⟩ = some (.bool neg) ∧ w'.cell? ⟨w.heap.size + 1, 13, none⟩ = some (.string dg) ∧ w'.cell? ⟨w.heap.size + 1, 14, none⟩ = some (.int .i64 ex) ∧ w'.cell? ⟨w.heap.size + 1, 15, none⟩ = some (.string tt)) (first | go_keep | exact ⟨by assumption, by assumption, by assumption, by assumption, by assumption, by assumption, by assumption, by assumption, by assumption, by assumption, by assumption, by assumption, by assumption, by assumption, by assumption, by assumption⟩)
            (first | (go_at_call 21; (with_reducible refine (HL.out _ (Tabs_below HT.out (below_drew1 HB8.out))).mono ?_); rintro e W9 ⟨rfl, b9⟩; have hx9 := Lib.hid (heap_keepsS b9 (blk_drew HX8.out)); have hr9 := Lib.hid (heap_keepsS b9 (blk_drew HR8.out)); have hb9 := Lib.hid (below_step (below_drew1 HB8.out) b9); have hrf9 := blk_frozen hr9.out; obtain ⟨c0, c1, c2, c3, c4, c5, c6, c7, c8, c9, c10, c11, c12, c13, c14, c15⟩ := all_cells _ hx9.out; simp only at c0 c1 c2 c3 c4 c5 c6 c7 c8 c9 c10 c11 c12 c13 c14 c15; obtain ⟨d0, d1, d2, d3, d4, d5, d6, d7, d8, d9, d10, d11, d12, d13, d14, d15⟩ := zero_cells hr9.out))
          all_goals
            have hv : (lb.toList == (s ++ (⟨#[10]⟩ : ByteArray)).toList) = decide (Q.lineL cm = U.L s) := by
              rw [HLB2.out, HLB.out, U.toList_L, U.toList_L, U.L_app, U.L_mk]
              by_cases e : Q.lineL cm = U.L s
              · rw [decide_eq_true e, e]; exact beq_self_eq_true _
              · rw [decide_eq_false e]
                exact beq_eq_false_iff_ne.2 (fun h => e (List.append_cancel_right h))
            go_wp2
            rw [← hv, ← HY.out]
            first
              | exact bodyPost_ret (results_cell_tmp rfl _ _ w.heap.size 29 (cmdV ⟨k, m, p, ⟨z, s1, s2, s3, s4, s5, s6, s7, s8⟩, ⟨neg, dg, ex⟩, tt⟩) (0, 0) _ rfl (store_all z29 ⟨k, m, p, ⟨z, s1, s2, s3, s4, s5, s6, s7, s8⟩, ⟨neg, dg, ex⟩, tt⟩ hr9.out) rfl rfl (by kernel_rfl)) rfl ⟨rfl, below_all ⟨k, m, p, ⟨z, s1, s2, s3, s4, s5, s6, s7, s8⟩, ⟨neg, dg, ex⟩, tt⟩ hb9.out (Nat.le_refl _)⟩
              | exact bodyPost_ret (results_cell_tmp rfl _ _ w.heap.size 29 (cmdV ⟨k, m, p, ⟨z, s1, s2, s3, s4, s5, s6, s7, s8⟩, ⟨neg, dg, ex⟩, tt⟩) (0, 0) _ rfl (heap_keepsS b9 (store_all z29 ⟨k, m, p, ⟨z, s1, s2, s3, s4, s5, s6, s7, s8⟩, ⟨neg, dg, ex⟩, tt⟩ (blk_drew HR8.out))) rfl rfl (by kernel_rfl)) rfl ⟨rfl, below_step (below_all ⟨k, m, p, ⟨z, s1, s2, s3, s4, s5, s6, s7, s8⟩, ⟨neg, dg, ex⟩, tt⟩ (below_drew1 HB8.out) (Nat.le_refl _)) b9⟩

/-- A command and a truth, side by side. -/
def flatC (y : S29) (b : Bool) : Int × Int × ByteArray × Int × ByteArray × ByteArray × ByteArray × ByteArray × ByteArray × ByteArray × ByteArray × ByteArray × Bool × ByteArray × Int × ByteArray × Bool := (y.f0, y.f1, y.f2, y.f3.f0, y.f3.f1, y.f3.f2, y.f3.f3, y.f3.f4, y.f3.f5, y.f3.f6, y.f3.f7, y.f3.f8, y.f4.f0, y.f4.f1, y.f4.f2, y.f5, b)
def script_read.f (s : ByteArray) : Option (Int × Int × ByteArray × Int × ByteArray × ByteArray × ByteArray × ByteArray × ByteArray × ByteArray × ByteArray × ByteArray × Bool × ByteArray × Int × ByteArray × Bool) := (script_read.g s).map fun x => flatC x.1 x.2
theorem read_calls (s : ByteArray) (r1 : S29) (r2 : Bool) (w : World) (hT : Tabs w) (h : script_read.g s = some (r1, r2)) :
    Calls Tryd.prog 19 #[.string s] w fun e w' => e = .returned (.tuple #[.agg (cmdV r1), .bool r2]) ∧ Below w.heap.size w w' := by
  unfold script_read.g at h
  split at h
  rotate_left
  · cases h
  rename_i hs
  cases hp : Q.progP (Q.splitC 32 (U.L s)) with
  | none =>
    rw [hp] at h
    obtain ⟨rfl, rfl⟩ := Prod.mk.inj (Option.some.inj h)
    exact read_fail s w hT hs hp
  | some c =>
    rw [hp] at h
    obtain ⟨rfl, rfl⟩ := Prod.mk.inj (Option.some.inj h)
    exact read_ok s c w hT hs hp
theorem script_read.calls (s : ByteArray) (r0 : Int) (r1 : Int) (r2 : ByteArray) (r3 : Int) (r4 : ByteArray) (r5 : ByteArray) (r6 : ByteArray) (r7 : ByteArray) (r8 : ByteArray) (r9 : ByteArray) (r10 : ByteArray) (r11 : ByteArray) (r12 : Bool) (r13 : ByteArray) (r14 : Int) (r15 : ByteArray) (r16 : Bool) (w : World) (hT : Tabs w) (h : script_read.f s = some (r0, r1, r2, r3, r4, r5, r6, r7, r8, r9, r10, r11, r12, r13, r14, r15, r16)) :
    Calls Tryd.prog 19 #[.string s] w fun e w' => e = .returned (.tuple #[.agg #[.int .i64 r0, .int .i64 r1, .string r2, .int .i32 r3, .string r4, .string r5, .string r6, .string r7, .string r8, .string r9, .string r10, .string r11, .bool r12, .string r13, .int .i64 r14, .string r15], .bool r16]) ∧ Below w.heap.size w w' := by
  unfold script_read.f at h
  obtain ⟨⟨y, b⟩, h1, h2⟩ := Option.map_eq_some_iff.1 h
  have := read_calls s y b w hT h1
  simp only [flatC, Prod.mk.injEq] at h2
  obtain ⟨rfl, rfl, rfl, rfl, rfl, rfl, rfl, rfl, rfl, rfl, rfl, rfl, rfl, rfl, rfl, rfl, rfl⟩ := h2
  exact this
end Go.Proofs.YtegndehoiodjeaaDoor.Print
