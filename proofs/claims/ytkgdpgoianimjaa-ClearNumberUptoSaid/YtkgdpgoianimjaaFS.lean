/- Package symbol's Good and Text: what they answer, as plain functions, and their contracts. -/
import Derived.Test.YtkgdpgoianimjaaFU
import Derived.Test.YtkgdpgoianimjaaPI
import Derived.Test.YtkgdpgoianimjaaU
import Derived.MapKept
import Derived.Lib.OthersKept
namespace Go.Proofs.Ytkgdpgoianimjaa.Print
open Go.RowKit Go.Proofs.Ytkgdpgoianimjaa.Utf Go.Proofs.YtkgdpgoianimjaaW.PrintWords Go.Proofs.YtkgdpgoianimjaaW.PrintLast Go.Proofs.YtkgdpgoianimjaaW.PrintMore
open Go.Proofs.Ytkgdpgoianimjaa.Pure (goodZ good_ev)
set_option linter.unusedVariables false
set_option linter.unusedSimpArgs false

theorem z_str : ∀ w, (Go.sizeOf 9).run Try.prog w = .ok 1 w := fun w => by kernel_rfl
/-- May a symbol be? -/
def goodT (t : ByteArray) : Bool := decide (t.size ≠ 0 ∧ t.size ≤ 16 ∧ badFrom t t.size 0 < 0)
/-! ### symbol.Text -/
/-- Of a kind the sign's text, if it is a sign's. -/
def sgn (s3 s4 s5 s6 s7 : ByteArray) (k : Int) : ByteArray × Bool := if k = 2 then (s3, true) else if k = 3 then (s4, true) else if k = 4 then (s5, true) else if k = 5 then (s6, true) else if k = 6 then (s7, true) else (⟨#[]⟩, false)
def itemT (s3 s4 s5 s6 s7 : ByteArray) (x : S57) : Option (List UInt8) :=
  if (sgn s3 s4 s5 s6 s7 x.f0).2 = true ∧ x.f1 = 0 then some (U.L (sgn s3 s4 s5 s6 s7 x.f0).1) else if x.f0 = 1 ∧ Lib.validRune x.f1 = true then some (Lib.encodeRune x.f1) else none
/-- The text of items, or that one may not be. -/
def itemsT (s3 s4 s5 s6 s7 : ByteArray) : List S57 → Option (List UInt8)
  | [] => some []
  | x :: l => (itemT s3 s4 s5 s6 s7 x).bind fun a => (itemsT s3 s4 s5 s6 s7 l).map fun b => a ++ b
def symbol_Text.f (z : Int) (s1 s2 s3 s4 s5 s6 s7 s8 : ByteArray) (l : List S57) : Option ByteArray :=
  if (l.length + 1) * (s3.size + s4.size + s5.size + s6.size + s7.size + 4) ≤ 140737488355328 then some ⟨((itemsT s3 s4 s5 s6 s7 l).getD []).toArray⟩ else none
theorem itemsT_snoc (s3 s4 s5 s6 s7 : ByteArray) (l : List S57) (x : S57) : itemsT s3 s4 s5 s6 s7 (l ++ [x]) = (itemsT s3 s4 s5 s6 s7 l).bind fun a => (itemT s3 s4 s5 s6 s7 x).map fun b => a ++ b := by
  induction l with
  | nil =>
    show (itemT s3 s4 s5 s6 s7 x).bind _ = _
    cases itemT s3 s4 s5 s6 s7 x <;> simp [itemsT]
  | cons y l ih =>
    rw [List.cons_append]
    simp only [itemsT]
    rw [ih]
    cases itemT s3 s4 s5 s6 s7 y with
    | none => rfl
    | some a =>
      cases itemsT s3 s4 s5 s6 s7 l with
      | none => rfl
      | some b => cases itemT s3 s4 s5 s6 s7 x <;> simp
theorem itemsT_bad (s3 s4 s5 s6 s7 : ByteArray) (l : List S57) (i : Nat) (x : S57) (hx : l[i]? = some x) (h : itemT s3 s4 s5 s6 s7 x = none) : itemsT s3 s4 s5 s6 s7 l = none := by
  induction l generalizing i with
  | nil => simp at hx
  | cons y l ih =>
    show (itemT s3 s4 s5 s6 s7 y).bind _ = none
    cases i with
    | zero =>
      have : y = x := by simpa using hx
      rw [this, h]; rfl
    | succ i =>
      rw [ih i (by simpa using hx)]
      cases itemT s3 s4 s5 s6 s7 y <;> rfl
theorem itemsT_succ (s3 s4 s5 s6 s7 : ByteArray) (l : List S57) (i : Nat) (x : S57) (acc b : List UInt8) (hx : l[i]? = some x) (h : itemsT s3 s4 s5 s6 s7 (l.take i) = some acc) (hb : itemT s3 s4 s5 s6 s7 x = some b) : itemsT s3 s4 s5 s6 s7 (l.take (i + 1)) = some (acc ++ b) := by
  rw [List.take_add_one, hx]
  show itemsT s3 s4 s5 s6 s7 (l.take i ++ [x]) = _
  rw [itemsT_snoc, h, hb]
  rfl
/-- A row of items that is read: where it lies. -/
theorem items_at {w : World} {A : Option Addr} {l : List S57} (h : Kd.C k57 w A l.length l) (hl : l ≠ []) :
    ∃ bk o, A = some ⟨bk, o, none⟩ ∧ bk < w.heap.size ∧ ∀ (j : Nat) x, l[j]? = some x → w.cell? ⟨bk, o + j * 2, none⟩ = some (.int .i64 x.f0) ∧ w.cell? ⟨bk, o + j * 2 + 1, none⟩ = some (.int .i32 x.f1) := by
  obtain ⟨_, _, hc⟩ := h
  obtain ⟨⟨bk, o, sp⟩, rfl, hc2⟩ := hc (List.length_pos_iff.2 hl)
  have one : ∀ (j : Nat) x, l[j]? = some x → w.cell? (Addr.add ⟨bk, o, sp⟩ (j * 2)) = some (.int .i64 x.f0) ∧ w.cell? (Addr.add ⟨bk, o, sp⟩ (j * 2 + 1)) = some (.int .i32 x.f1) := fun j x hx => by
    obtain ⟨c, _, hK, hcell⟩ := hc2 j x hx
    obtain rfl := k57_open hK
    have h0 := hcell 0 _ rfl
    have h1 := hcell 1 _ rfl
    exact ⟨h0, h1⟩
  obtain ⟨x, r, rfl⟩ := List.exists_cons_of_ne_nil hl
  have h0 := (one 0 x rfl).1
  rw [show (Addr.add ⟨bk, o, sp⟩ (0 * 2)) = ⟨bk, o, sp⟩ by simp [Addr.add]] at h0
  obtain rfl := cell_spot h0
  exact ⟨bk, o, rfl, World.block_lt_of_cell? w _ h0, fun j x hx => by have := one j x hx; rw [Addr.add_lit, Addr.add_lit] at this; exact this⟩

theorem get_ex {α : Type} (l : List α) (i : Nat) (h : i < l.length) : ∃ x, l[i]? = some x := ⟨_, List.getElem?_eq_getElem h⟩
theorem z_item : ∀ w, (Go.sizeOf 57).run Try.prog w = .ok 2 w := fun w => by kernel_rfl
theorem idx_items (n c i bk o : Nat) (A : Option Addr) (W : World) (hA : A = some ⟨bk, o, none⟩) (hi : i < n) :
    (Instr.indexAt 24 (.slice A n c) (.int .i64 (i : Int))).run Try.prog W = .ok (.pointer (some ⟨bk, o + i * 2, none⟩)) W := by
  subst hA
  have ht : Try.prog.underlying 24 = some (.slice (Try.prog.elem 24)) := by kernel_rfl
  have he : Try.prog.elem 24 = 57 := by kernel_rfl
  rw [run_indexAt_slice _ _ _ _ _ _ _ ht, he, if_pos ⟨by omega, by omega⟩, z_item]
  simp [Result.andThen, Addr.add_lit]
/-- The signs' map. -/
def sgnMap (s3 s4 s5 s6 s7 : ByteArray) : Array MapEntry := #[⟨.int .i64 2, .string s3, 0⟩, ⟨.int .i64 3, .string s4, 1⟩, ⟨.int .i64 4, .string s5, 2⟩, ⟨.int .i64 5, .string s6, 3⟩, ⟨.int .i64 6, .string s7, 4⟩]
theorem push_set {α : Type} (l : Array α) (o o' : α) : (l.push o).setIfInBounds l.size o' = l.push o' := by
  apply Array.ext
  · simp
  · intro i h1 h2
    rw [Array.getElem_setIfInBounds (by simpa using h1)]
    by_cases e : l.size = i
    · subst e; simp
    · rw [if_neg e, Array.getElem_push, Array.getElem_push]
      have : i < l.size := by simp at h1; omega
      simp [this]
theorem make_run (w : World) (t : TypeId) : (Instr.makeMap t none).run Try.prog w = .ok (.map (some w.heap.size)) (w.alloc (.map #[] 0)) := by
  simp [Instr.makeMap, go_sem]
theorem ins_run (w : World) (es : Array MapEntry) (c : Nat) (b : Nat) (k : Int) (x : Value) (hb : b = w.heap.size) (hn : Instr.findNow (.int .i64) (.int .i64 k) es.toList 0 = some none) :
    (Instr.mapUpdate 81 (.map (some b)) (.int .i64 k) x).run Try.prog (w.alloc (.map es c)) = .ok () (w.alloc (.map (es.push ⟨.int .i64 k, x, c⟩) (c + 1))) := by
  subst hb
  have hg : (w.alloc (.map es c)).heap[w.heap.size]? = some (.map es c) := heap_alloc_new _ _
  have hd : Try.prog.underlying 3 = some (.int .i64) := Try.underlying3
  simp [Instr.mapUpdate, run_underlying Try.underlying81, MapKept.run_getObj_map hg, MapKept.run_checkKey hd (show MapKept.IsKey (.int .i64) (.int .i64 k) from rfl), MapKept.run_findKey hd hn, MapKept.run_setObj_map _ hg, Result.andThen]
  exact congrArg (fun h => ({ w with heap := h } : World)) (push_set w.heap _ _)
theorem look_run (w : World) (s3 s4 s5 s6 s7 : ByteArray) (b : Nat) (k : Int) (c : Nat) (hb : w.heap[b]? = some (.map (sgnMap s3 s4 s5 s6 s7) c)) :
    (Instr.lookup 81 (.map (some b)) (.int .i64 k) true).run Try.prog w = .ok (.tuple #[.string (sgn s3 s4 s5 s6 s7 k).1, .bool (sgn s3 s4 s5 s6 s7 k).2]) w := by
  have hd : Try.prog.underlying 3 = some (.int .i64) := Try.underlying3
  have hz : ∀ w, (zeroValue 9).run Try.prog w = .ok (.string ⟨#[]⟩) w := fun w => by kernel_rfl
  have go : ∀ (a : Option (Nat × Value)), Instr.findNow (.int .i64) (.int .i64 k) (sgnMap s3 s4 s5 s6 s7).toList 0 = some a → (Instr.lookup 81 (.map (some b)) (.int .i64 k) true).run Try.prog w = match a with | some (_, v) => .ok (.tuple #[v, .bool true]) w | none => .ok (.tuple #[.string ⟨#[]⟩, .bool false]) w := fun a ha => by
    cases a with
    | none => simp [Instr.lookup, run_underlying Try.underlying81, MapKept.run_getObj_map hb, MapKept.run_checkKey hd (show MapKept.IsKey (.int .i64) (.int .i64 k) from rfl), MapKept.run_findKey hd ha, Result.andThen, hz]
    | some p => simp [Instr.lookup, run_underlying Try.underlying81, MapKept.run_getObj_map hb, MapKept.run_checkKey hd (show MapKept.IsKey (.int .i64) (.int .i64 k) from rfl), MapKept.run_findKey hd ha, Result.andThen]
  by_cases h2 : k = 2
  · subst h2; exact go (some (0, .string s3)) rfl
  by_cases h3 : k = 3
  · subst h3; exact go (some (1, .string s4)) rfl
  by_cases h4 : k = 4
  · subst h4; exact go (some (2, .string s5)) rfl
  by_cases h5 : k = 5
  · subst h5; exact go (some (3, .string s6)) rfl
  by_cases h6 : k = 6
  · subst h6; exact go (some (4, .string s7)) rfl
  have := go none (by simp [sgnMap, Instr.findNow, Instr.sameNow, beq_eq_false_iff_ne.2 h2, beq_eq_false_iff_ne.2 h3, beq_eq_false_iff_ne.2 h4, beq_eq_false_iff_ne.2 h5, beq_eq_false_iff_ne.2 h6])
  rw [this]
  unfold sgn
  simp only [if_neg h2, if_neg h3, if_neg h4, if_neg h5, if_neg h6]

set_option maxHeartbeats 8000000 in
set_option maxRecDepth 1000000 in
theorem symbol_Text.calls (z : Int) (s1 s2 s3 s4 s5 s6 s7 s8 : ByteArray) (A1 : Option Addr) (c1 : Nat) (l1 : List S57) (r : ByteArray) (w : World) (hr1 : Kd.C k57 w A1 l1.length l1) (hc1 : l1.length ≤ c1) (h : symbol_Text.f z s1 s2 s3 s4 s5 s6 s7 s8 l1 = some r) :
    Calls Try.prog 21 #[.agg #[.int .i32 z, .string s1, .string s2, .string s3, .string s4, .string s5, .string s6, .string s7, .string s8], .slice A1 l1.length c1] w fun e w' => e = .returned (.string r) ∧ Below w.heap.size w w' := by
  unfold symbol_Text.f at h
  by_cases hlim : (l1.length + 1) * (s3.size + s4.size + s5.size + s6.size + s7.size + 4) ≤ 140737488355328
  rotate_left
  · rw [if_neg hlim] at h; cases h
  rw [if_pos hlim] at h
  have HH := Lib.hid (Option.some.inj h)
  clear h
  go_enter Try.func21, Try.ntmps21
  obtain ⟨bx, hbx⟩ : ∃ bx, bx = Obj.cells #[.int .i32 z, .string s1, .string s2, .string s3, .string s4, .string s5, .string s6, .string s7, .string s8] 23 := ⟨_, rfl⟩
  have m0 := make_run (w.alloc bx) 81
  have i0 := ins_run (w.alloc bx) #[] 0 (w.heap.size + 1) 2 (.string s3) (by simp) rfl
  have i1 := ins_run (w.alloc bx) #[⟨.int .i64 2, .string s3, 0⟩] 1 (w.heap.size + 1) 3 (.string s4) (by simp) rfl
  have i2 := ins_run (w.alloc bx) #[⟨.int .i64 2, .string s3, 0⟩, ⟨.int .i64 3, .string s4, 1⟩] 2 (w.heap.size + 1) 4 (.string s5) (by simp) rfl
  have i3 := ins_run (w.alloc bx) #[⟨.int .i64 2, .string s3, 0⟩, ⟨.int .i64 3, .string s4, 1⟩, ⟨.int .i64 4, .string s5, 2⟩] 3 (w.heap.size + 1) 5 (.string s6) (by simp) rfl
  have i4 := ins_run (w.alloc bx) #[⟨.int .i64 2, .string s3, 0⟩, ⟨.int .i64 3, .string s4, 1⟩, ⟨.int .i64 4, .string s5, 2⟩, ⟨.int .i64 5, .string s6, 3⟩] 4 (w.heap.size + 1) 6 (.string s7) (by simp) rfl
  simp only [List.push_toArray, List.nil_append, List.cons_append] at i0 i1 i2 i3 i4
  subst hbx
  go_wp2
  obtain ⟨W0, hW0⟩ : ∃ W0 : World, W0 = (w.alloc (Obj.cells #[.int .i32 z, .string s1, .string s2, .string s3, .string s4, .string s5, .string s6, .string s7, .string s8] 23)).alloc (Obj.map (sgnMap s3 s4 s5 s6 s7) 5) := ⟨_, rfl⟩
  have hW0b : (w.alloc (Obj.cells #[.int .i32 z, .string s1, .string s2, .string s3, .string s4, .string s5, .string s6, .string s7, .string s8] 23)).alloc (Obj.map #[⟨.int .i64 2, .string s3, 0⟩, ⟨.int .i64 3, .string s4, 1⟩, ⟨.int .i64 4, .string s5, 2⟩, ⟨.int .i64 5, .string s6, 3⟩, ⟨.int .i64 6, .string s7, 4⟩] 5) = W0 := hW0.symm
  have hsz0 : W0.heap.size = w.heap.size + 1 + 1 := by rw [hW0]; simp
  have hmap0 : W0.heap[w.heap.size + 1]? = some (.map (sgnMap s3 s4 s5 s6 s7) 5) := by rw [hW0]; exact heap_alloc2_new _ _ _
  have hbw0 : Below w.heap.size w W0 := by rw [hW0]; exact ((Below.refl _ w).alloc (Nat.le_refl _) _).alloc (by simp) _
  simp only [hW0b]
  clear hW0 hW0b m0 i0 i1 i2 i3 i4
  obtain ⟨M, hM⟩ : ∃ M, M = s3.size + s4.size + s5.size + s6.size + s7.size + 4 := ⟨_, rfl⟩
  rw [← hM] at hlim
  have hsg : ∀ k, (sgn s3 s4 s5 s6 s7 k).1.size + 4 ≤ M := fun k => by
    unfold sgn
    repeat' split
    all_goals first | (dsimp only; omega) | (show 0 + 4 ≤ M; omega)
  have hMl : ∀ i, i < l1.length → i * M + M ≤ 140737488355328 := fun i hi => by
    have : (i + 1) * M ≤ (l1.length + 1) * M := Nat.mul_le_mul_right _ (by omega)
    rw [Nat.add_mul, Nat.one_mul] at this
    omega
  have hln : l1.length ≤ 140737488355328 := by
    have h4 : 1 ≤ M := by omega
    have := Nat.mul_le_mul_left (l1.length + 1) h4
    rw [Nat.mul_one] at this
    omega
  clear hlim hM
  go_loopw [25] (fun v25 wr => ∃ (i : Nat) (acc : List UInt8), v25 = .int .i64 i ∧ i ≤ l1.length ∧ Lib.IsBuilderF 84 5 (w.heap.size + 1 + 1) (w.heap.size + 1 + 1) (Lib.byteCells acc) wr ∧ Below (w.heap.size + 1 + 1) W0 wr ∧ Hid (itemsT s3 s4 s5 s6 s7 (l1.take i) = some acc) ∧ acc.length ≤ i * M) (fun v25 wr => l1.length - (RowKit.intOf v25).toNat)
  case atStart => exact ⟨0, [], rfl, Nat.zero_le _, by rw [← hsz0]; exact Lib.IsBuilderF.of (Lib.fresh_isBuilder 84 5 W0), by rw [← hsz0]; exact (Below.refl _ W0).alloc (Nat.le_refl _) _, Lib.hid rfl, by simp⟩
  case round =>
    obtain ⟨i, acc, rfl, hil, hI, hbw, hacc, hal⟩ := hrel
    have hsz : w.heap.size + 1 + 1 ≤ wr.heap.size := by have := hbw.size; omega
    have hmap : wr.heap[w.heap.size + 1]? = some (.map (sgnMap s3 s4 s5 s6 s7) 5) := (hbw.block _ (by omega)).trans hmap0
    by_cases hi : i < l1.length
    · obtain ⟨x, hx⟩ := get_ex l1 i hi
      obtain ⟨bk, o, hA1, hbk, hcells⟩ := items_at hr1 (fun e => by rw [e] at hi; simp at hi)
      have hia := fun W => idx_items l1.length c1 i bk o A1 W hA1 hi
      clear hA1
      have hc := hcells i x hx
      have hb1 : Below w.heap.size w wr := hbw0.trans (hbw.mono (by omega))
      have hcx0 := (hb1.cell (p := ⟨bk, o + i * 2, none⟩) hbk).trans hc.1
      have hcx1 := (hb1.cell (p := ⟨bk, o + i * 2 + 1, none⟩) hbk).trans hc.2
      have HX := Lib.hid hx
      have hlk := look_run (wr.alloc (Obj.cells #[.int .i64 x.f0, .int .i32 x.f1] 57)) s3 s4 s5 s6 s7 (w.heap.size + 1) x.f0 5 (by show (wr.heap.push _)[_]? = _; rw [Array.getElem?_push, if_neg (by omega)]; exact hmap)
      clear hx hc hcells hr1
      obtain ⟨k, q⟩ := x
      simp only at hcx0 hcx1 hlk
      have hsk : (sgn s3 s4 s5 s6 s7 k).1.size + 4 ≤ M := hsg k
      have hMi := hMl i hi
      obtain ⟨sg, hsgv⟩ : ∃ sg, sgn s3 s4 s5 s6 s7 k = sg := ⟨_, rfl⟩
      rw [hsgv] at hlk hsk
      obtain ⟨t, c⟩ := sg
      simp only at hlk
      replace hsk : t.size + 4 ≤ M := hsk
      have HS := Lib.hid hsgv
      clear hsgv
      by_cases hA : c = true ∧ q = 0
      · obtain ⟨rfl, rfl⟩ := hA
        go_wp2_with (go_at_call 39; refine (Try.Builder_WriteString_k (w.heap.size + 1 + 1) (w.heap.size + 1 + 1) _ t _ (hI.alloc _) (by rw [Lib.byteCells_length]; omega) (by simp; omega)).mono ?_; rintro e W1 ⟨rfl, h1, b1, k1⟩)
        go_roundw
        case rel =>
          have hb2 := ((Below.refl (w.heap.size + 1 + 1) wr).alloc (by omega) _).trans b1
          refine ⟨i + 1, acc ++ U.L t, by go_num, by omega, ?_, hbw.trans hb2, Lib.hid ?_, ?_⟩
          · rw [Lib.byteCells_append]; exact Or.inr h1
          · refine itemsT_succ s3 s4 s5 s6 s7 l1 i _ acc _ HX.out hacc.out ?_
            unfold itemT
            simp only [HS.out]
            rfl
          · rw [List.length_append, U.L_len, Nat.add_mul, Nat.one_mul]; omega
        case measure => simp [RowKit.intOf]; omega
      have hbad : ¬ (k = 1 ∧ Lib.validRune q = true) → (⟨#[]⟩ : ByteArray) = r := fun hn => by
        have hh := HH.out
        rw [itemsT_bad s3 s4 s5 s6 s7 l1 i _ HX.out (by
          unfold itemT
          simp only [HS.out]
          rw [if_neg hA, if_neg hn])] at hh
        exact hh
      have hBk : Below w.heap.size w wr := hb1
      by_cases hc1 : c = true
      · subst hc1
        have hq : ¬ q = 0 := fun e => hA ⟨rfl, e⟩
        have hq0 : (q == 0) = false := beq_eq_false_iff_ne.2 hq
        have hk1 : ¬ k = 1 := fun e => by
          have := HS.out
          rw [e] at this
          cases this
        have hk0 : (k == 1) = false := beq_eq_false_iff_ne.2 hk1
        have HN := Lib.hid (hbad (fun h => hk1 h.1))
        clear hbad hA hq hk1
        go_wp2
        go_ret
        exact ⟨by rw [← HN.out]; rfl, hBk.alloc hBk.size _⟩
      have hc0 : c = false := by simpa using hc1
      subst hc0
      clear hA hc1
      by_cases hk1 : k = 1
      · have hk0 : (k == 1) = true := by rw [hk1]; rfl
        have HK := Lib.hid hk1
        have HN2 : Hid (¬ Lib.validRune q = true → (⟨#[]⟩ : ByteArray) = r) := Lib.hid (fun hv => hbad (fun h => hv h.2))
        clear hbad hk1
        by_cases hv : Lib.validRune q = true
        · have hv2 : -2147483648 ≤ q ∧ q ≤ 2147483647 := by
            have := hv
            unfold Lib.validRune at this
            have := of_decide_eq_true this
            omega
          have hl4 := Lib.runeCells_le q
          rw [Lib.runeCells_length] at hl4
          go_wp2_with (first
            | (go_at_call 40; refine (scalar_any q _).mono ?_; rintro e w' ⟨rfl, rfl⟩)
            | (go_at_call 41; refine (Try.Builder_WriteRune_k (w.heap.size + 1 + 1) (w.heap.size + 1 + 1) _ q hv2.1 hv2.2 _ (hI.alloc _) (by rw [Lib.byteCells_length]; omega) (by simp; omega)).mono ?_; rintro e W1 ⟨rfl, h1, b1, k1⟩))
          go_roundw
          case rel =>
            have hb2 := ((Below.refl (w.heap.size + 1 + 1) wr).alloc (by omega) _).trans b1
            refine ⟨i + 1, acc ++ Lib.encodeRune q, by go_num, by omega, ?_, hbw.trans hb2, Lib.hid ?_, ?_⟩
            · rw [Lib.byteCells_append, Lib.byteCells_encodeRune]; exact Or.inr h1
            · refine itemsT_succ s3 s4 s5 s6 s7 l1 i _ acc _ HX.out hacc.out ?_
              unfold itemT
              simp only [HS.out]
              rw [if_neg (fun h => by cases h.1), if_pos ⟨HK.out, hv⟩]
            · rw [List.length_append, Nat.add_mul, Nat.one_mul]; omega
          case measure => simp [RowKit.intOf]; omega
        · have hv0 : Lib.validRune q = false := by simpa using hv
          have HN := Lib.hid (HN2.out hv)
          clear hv
          go_wp2_with (go_at_call 40; refine (scalar_any q _).mono ?_; rintro e w' ⟨rfl, rfl⟩)
          go_ret
          exact ⟨by rw [← HN.out]; rfl, hBk.alloc hBk.size _⟩
      · have hk0 : (k == 1) = false := beq_eq_false_iff_ne.2 hk1
        have HN := Lib.hid (hbad (fun h => hk1 h.1))
        clear hbad hk1
        go_wp2
        go_ret
        exact ⟨by rw [← HN.out]; rfl, hBk.alloc hBk.size _⟩
    · have hie : i = l1.length := by omega
      subst hie
      go_wp2_with (go_at_call 42; refine (Try.Builder_String_any_k (w.heap.size + 1 + 1) (w.heap.size + 1 + 1) acc _ hI hsz).mono ?_)
      rintro e W1 ⟨rfl, _, b1, _⟩
      go_wp2
      go_ret
      have ha := hacc.out
      rw [List.take_length] at ha
      have hh := HH.out
      rw [ha] at hh
      exact ⟨by rw [← hh]; rfl, hbw0.trans ((hbw.trans b1).mono (by omega))⟩
end Go.Proofs.Ytkgdpgoianimjaa.Print
