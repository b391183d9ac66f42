/- Package symbol's Good and Text: what they answer, as plain functions, and their contracts. -/
import Derived.Test.YtngaeggnjfhnfaaDoorFU
import Derived.Test.YtngaeggnjfhnfaaDoorPG
import Derived.Test.YtngaeggnjfhnfaaDoorU
import Derived.MapKept
import Derived.Lib.OthersKept
namespace Go.Proofs.YtngaeggnjfhnfaaDoor.Print
open Go.RowKit Go.Proofs.YtngaeggnjfhnfaaDoor.Utf Go.Proofs.YtngaeggnjfhnfaaDoorW.PrintWords Go.Proofs.YtngaeggnjfhnfaaDoorW.PrintLast Go.Proofs.YtngaeggnjfhnfaaDoorW.PrintMore
open Go.Proofs.YtngaeggnjfhnfaaDoor.Pure (goodZ good_ev)
set_option linter.unusedVariables false
set_option linter.unusedSimpArgs false

/-- Texts as an array's values. -/
def strs (l : List ByteArray) : Array Value := (l.map Value.string).toArray
theorem strs_at (l : List ByteArray) (i : Nat) (x : ByteArray) (h : l[i]? = some x) : (strs l)[i]? = some (.string x) := by
  unfold strs
  simp [h]
theorem run_index_arr {P : Program} {w : World} (t e : TypeId) (n : Nat) (cs : Array Value) (v : Value) (i : Nat) (h : P.underlying t = some (.array n e)) (hz : ∀ w, (Go.sizeOf e).run P w = .ok 1 w) (ha : ∀ w, (isAgg e).run P w = .ok false w) (hi : i < n) (hv : cs[i]? = some v) :
    (Instr.index t (.agg cs) (.int .i64 (i : Int))).run P w = .ok v w := by
  have hn : (0 : Int) ≤ (i : Int) ∧ (i : Int) < (n : Int) := by omega
  simp [Instr.index, run_underlying h, asIntOf, hi, hz, ha, hv, go_sem]
theorem toListLen (x : ByteArray) : x.toList.length = x.size := by rw [U.toList_L, U.L_len]
theorem all_atG {α : Type} (l : List α) (p : α → Bool) (i : Nat) (x : α) (hx : l[i]? = some x) (h : p x = false) : l.all p = false := by
  rw [List.all_eq_false]
  exact ⟨x, List.mem_of_getElem? hx, by simp [h]⟩
theorem all_succG {α : Type} (l : List α) (p : α → Bool) (i : Nat) (x : α) (hx : l[i]? = some x) (h : (l.take i).all p = true) (h2 : p x = true) : (l.take (i + 1)).all p = true := by
  rw [List.take_add_one, hx, List.all_append, h]
  simp [h2]
theorem ret_bool {a b : Bool} (h : a = b) : Ending.returned (.bool a) = .returned (.bool b) := by rw [h]
theorem z_str : ∀ w, (Go.sizeOf 9).run Tryd.prog w = .ok 1 w := fun w => by kernel_rfl
theorem a_str : ∀ w, (isAgg 9).run Tryd.prog w = .ok false w := fun w => by kernel_rfl
/-- May a symbol be? -/
def goodT (t : ByteArray) : Bool := decide (t.size ≠ 0 ∧ t.size ≤ 16 ∧ badFrom t t.size 0 < 0)
def symbol_Good.f (z : Int) (s1 s2 s3 s4 s5 s6 s7 s8 : ByteArray) : Option Bool := some ([s1, s2, s3, s4, s5, s6, s7, s8].all goodT && goodZ z)

set_option maxHeartbeats 4000000 in
set_option maxRecDepth 1000000 in
theorem texts_calls (z : Int) (s1 s2 s3 s4 s5 s6 s7 s8 : ByteArray) (w : World) :
    Calls Tryd.prog 16 #[.agg #[.int .i32 z, .string s1, .string s2, .string s3, .string s4, .string s5, .string s6, .string s7, .string s8]] w fun e w' => e = .returned (.agg (strs [s1, s2, s3, s4, s5, s6, s7, s8])) ∧ Below w.heap.size w w' := by
  go_enter Tryd.func16, Tryd.ntmps16
  go_wp2
  refine bodyPost_ret (results_cell_row rfl _ _ (w.heap.size + 1) 38 (strs [s1, s2, s3, s4, s5, s6, s7, s8]) (0, 0) _ rfl (heap_alloc2_new _ _ _) rfl rfl (by kernel_rfl)) rfl ⟨rfl, ?_⟩
  exact ((Below.refl _ w).alloc (Nat.le_refl _) _).alloc (by simp) _

set_option maxHeartbeats 4000000 in
set_option maxRecDepth 1000000 in
theorem symbol_Good.calls (z : Int) (s1 s2 s3 s4 s5 s6 s7 s8 : ByteArray) (r : Bool) (w : World) (hT : Tabs w) (h : symbol_Good.f z s1 s2 s3 s4 s5 s6 s7 s8 = some r) :
    Calls Tryd.prog 9 #[.agg #[.int .i32 z, .string s1, .string s2, .string s3, .string s4, .string s5, .string s6, .string s7, .string s8]] w fun e w' => e = .returned (.bool r) ∧ Below w.heap.size w w' := by
  obtain ⟨kg, hkg⟩ := good_ev z
  have HT := Lib.hid hT
  have HR := Lib.hid (Option.some.inj h)
  have HG := Lib.hid (hkg kg (Nat.le_refl _))
  clear hT h hkg
  go_enter Tryd.func9, Tryd.ntmps9
  go_wp2_with (go_at_call 16; refine (texts_calls z s1 s2 s3 s4 s5 s6 s7 s8 _).mono ?_; rintro e W1 ⟨rfl, hb1⟩)
  have hb0 : w.heap.size ≤ W1.heap.size := Nat.le_trans (by simp) hb1.size
  have hbx : W1.heap[w.heap.size]? = some (.cells #[.int .i32 z, .string s1, .string s2, .string s3, .string s4, .string s5, .string s6, .string s7, .string s8] 23) := heap_keeps hb1 (heap_alloc_new _ _)
  have hbw : Below w.heap.size w W1 := ((Below.refl _ w).alloc (Nat.le_refl _) _).trans (hb1.mono (by simp))
  clear hb1
  obtain ⟨ts, hts⟩ : ∃ ts, ts = [s1, s2, s3, s4, s5, s6, s7, s8] := ⟨_, rfl⟩
  have hlen : ts.length = 8 := by rw [hts]; rfl
  rw [← hts] at HR ⊢
  clear hts
  go_loopw [7] (fun v7 wr => ∃ (i : Nat), v7 = .int .i64 i ∧ i ≤ 8 ∧ wr.heap[w.heap.size]? = some (.cells #[.int .i32 z, .string s1, .string s2, .string s3, .string s4, .string s5, .string s6, .string s7, .string s8] 23) ∧ Below w.heap.size w wr ∧ Hid ((ts.take i).all goodT = true)) (fun v7 wr => 8 - (RowKit.intOf v7).toNat)
  case atStart => exact ⟨0, rfl, by omega, hbx, hbw, Lib.hid rfl⟩
  case round =>
    obtain ⟨i, rfl, hi8, hbx2, hbw2, hall⟩ := hrel
    by_cases hi : i < 8
    · obtain ⟨x, hx⟩ : ∃ x, ts[i]? = some x := ⟨_, List.getElem?_eq_getElem (by omega)⟩
      have hix := run_index_arr (P := Tryd.prog) (w := wr) 38 9 8 (strs ts) (.string x) i Tryd.underlying38 z_str a_str hi (strs_at ts i x hx)
      have HX := Lib.hid hx
      clear hx
      by_cases h0 : x.size = 0
      · obtain rfl : x = ⟨#[]⟩ := ByteArray.ext (by rw [← Array.size_eq_zero_iff]; exact h0)
        clear h0
        go_wp2
        go_ret
        have hr := HR.out
        rw [all_atG ts goodT i _ HX.out (by decide)] at hr
        exact ⟨ret_bool hr, hbw2⟩
      have hne : x.toList ≠ [] := fun e => h0 (by
        have := congrArg List.length e
        rw [toListLen] at this
        exact this)
      have hneb : (x.toList == ([] : List UInt8)) = false := beq_eq_false_iff_ne.mpr hne
      have hnee : x.toList.isEmpty = false := by
        cases e : x.toList with
        | nil => exact absurd e hne
        | cons _ _ => rfl
      by_cases h1 : x.size > 16
      · have hg1 : decide (16 < (x.size : Int)) = true := decide_eq_true (by omega)
        go_wp2
        go_ret
        have hr := HR.out
        rw [all_atG ts goodT i _ HX.out (decide_eq_false (by omega))] at hr
        exact ⟨ret_bool hr, hbw2⟩
      have hg1 : decide (16 < (x.size : Int)) = false := decide_eq_false (by omega)
      obtain ⟨bd, hbd⟩ : ∃ bd, badFrom x x.size 0 = bd := ⟨_, rfl⟩
      have hbf : utf_Bad.f x = some bd := by unfold utf_Bad.f; rw [if_pos (by omega), hbd]
      have HBF := Lib.hid hbf
      clear hbf
      have hTw : Tabs wr := Tabs_below HT.out hbw2
      by_cases h2 : bd ≥ 0
      · have hb0 : decide (0 ≤ bd) = true := decide_eq_true h2
        go_wp2_with (go_at_call 17; refine (utf_Bad.calls x bd _ hTw HBF.out).mono ?_; rintro e W2 ⟨rfl, hb2⟩)
        go_ret
        have hr := HR.out
        rw [all_atG ts goodT i _ HX.out (decide_eq_false (by rw [hbd]; omega))] at hr
        exact ⟨ret_bool hr, hbw2.trans (hb2.mono hbw2.size)⟩
      · have hb0 : decide (0 ≤ bd) = false := decide_eq_false h2
        go_wp2_with (go_at_call 17; refine (utf_Bad.calls x bd _ hTw HBF.out).mono ?_; rintro e W2 ⟨rfl, hb2⟩)
        go_roundw
        case rel => exact ⟨i + 1, by go_num, by omega, heap_keeps hb2 hbx2, hbw2.trans (hb2.mono hbw2.size), Lib.hid (all_succG ts goodT i x HX.out hall.out (decide_eq_true ⟨h0, by omega, by rw [hbd]; omega⟩))⟩
        case measure => simp [RowKit.intOf]; omega
    · obtain rfl : i = 8 := by omega
      have hcell : wr.cell? ⟨w.heap.size, 0, none⟩ = some (.int .i32 z) := by simp [World.cell?, hbx2]
      go_wp2_with (go_at_call 18; refine (digit_Good.calls kg z _ _ HG.out).mono ?_; rintro e W2 ⟨rfl, hd2⟩)
      go_ret
      have hr := HR.out
      have ha := hall.out
      rw [List.take_of_length_le (by omega)] at ha
      rw [ha, Bool.true_and] at hr
      exact ⟨ret_bool hr, hbw2.trans (hd2.below.mono hbw2.size)⟩

/-! ### symbol.Text -/
/-- Of a kind the sign's text, if it is a sign's. -/
def sgn (s3 s4 s5 s6 s7 : ByteArray) (k : Int) : ByteArray × Bool := if k = 2 then (s3, true) else if k = 3 then (s4, true) else if k = 4 then (s5, true) else if k = 5 then (s6, true) else if k = 6 then (s7, true) else (⟨#[]⟩, false)
def itemT (s3 s4 s5 s6 s7 : ByteArray) (x : S34) : Option (List UInt8) :=
  if (sgn s3 s4 s5 s6 s7 x.f0).2 = true ∧ x.f1 = 0 then some (U.L (sgn s3 s4 s5 s6 s7 x.f0).1) else if x.f0 = 1 ∧ Lib.validRune x.f1 = true then some (Lib.encodeRune x.f1) else none
/-- The text of items, or that one may not be. -/
def itemsT (s3 s4 s5 s6 s7 : ByteArray) : List S34 → Option (List UInt8)
  | [] => some []
  | x :: l => (itemT s3 s4 s5 s6 s7 x).bind fun a => (itemsT s3 s4 s5 s6 s7 l).map fun b => a ++ b
def symbol_Text.f (z : Int) (s1 s2 s3 s4 s5 s6 s7 s8 : ByteArray) (l : List S34) : Option ByteArray :=
  if (l.length + 1) * (s3.size + s4.size + s5.size + s6.size + s7.size + 4) ≤ 140737488355328 then some ⟨((itemsT s3 s4 s5 s6 s7 l).getD []).toArray⟩ else none
theorem itemsT_snoc (s3 s4 s5 s6 s7 : ByteArray) (l : List S34) (x : S34) : itemsT s3 s4 s5 s6 s7 (l ++ [x]) = (itemsT s3 s4 s5 s6 s7 l).bind fun a => (itemT s3 s4 s5 s6 s7 x).map fun b => a ++ b := by
  induction l with
  | nil =>
    show (itemT s3 s4 s5 s6 s7 x).bind _ = _
    cases itemT s3 s4 s5 s6 s7 x <;> simp [itemsT]
  | cons y l ih =>
    rw [List.cons_append]
    simp only [itemsT]
    rw [ih]
    cases itemT s3 s4 s5 s6 s7 y with
    | none => rfl
    | some a =>
      cases itemsT s3 s4 s5 s6 s7 l with
      | none => rfl
      | some b => cases itemT s3 s4 s5 s6 s7 x <;> simp
theorem itemsT_bad (s3 s4 s5 s6 s7 : ByteArray) (l : List S34) (i : Nat) (x : S34) (hx : l[i]? = some x) (h : itemT s3 s4 s5 s6 s7 x = none) : itemsT s3 s4 s5 s6 s7 l = none := by
  induction l generalizing i with
  | nil => simp at hx
  | cons y l ih =>
    show (itemT s3 s4 s5 s6 s7 y).bind _ = none
    cases i with
    | zero =>
      have : y = x := by simpa using hx
      rw [this, h]; rfl
    | succ i =>
      rw [ih i (by simpa using hx)]
      cases itemT s3 s4 s5 s6 s7 y <;> rfl
theorem itemsT_succ (s3 s4 s5 s6 s7 : ByteArray) (l : List S34) (i : Nat) (x : S34) (acc b : List UInt8) (hx : l[i]? = some x) (h : itemsT s3 s4 s5 s6 s7 (l.take i) = some acc) (hb : itemT s3 s4 s5 s6 s7 x = some b) : itemsT s3 s4 s5 s6 s7 (l.take (i + 1)) = some (acc ++ b) := by
  rw [List.take_add_one, hx]
  show itemsT s3 s4 s5 s6 s7 (l.take i ++ [x]) = _
  rw [itemsT_snoc, h, hb]
  rfl
/-- A row of items that is read: where it lies. -/
theorem items_at {w : World} {A : Option Addr} {l : List S34} (h : Kd.C k34 w A l.length l) (hl : l ≠ []) :
    ∃ bk o, A = some ⟨bk, o, none⟩ ∧ bk < w.heap.size ∧ ∀ (j : Nat) x, l[j]? = some x → w.cell? ⟨bk, o + j * 2, none⟩ = some (.int .i64 x.f0) ∧ w.cell? ⟨bk, o + j * 2 + 1, none⟩ = some (.int .i32 x.f1) := by
  obtain ⟨_, _, hc⟩ := h
  obtain ⟨⟨bk, o, sp⟩, rfl, hc2⟩ := hc (List.length_pos_iff.2 hl)
  have one : ∀ (j : Nat) x, l[j]? = some x → w.cell? (Addr.add ⟨bk, o, sp⟩ (j * 2)) = some (.int .i64 x.f0) ∧ w.cell? (Addr.add ⟨bk, o, sp⟩ (j * 2 + 1)) = some (.int .i32 x.f1) := fun j x hx => by
    obtain ⟨c, _, hK, hcell⟩ := hc2 j x hx
    obtain rfl := k34_open hK
    have h0 := hcell 0 _ rfl
    have h1 := hcell 1 _ rfl
    exact ⟨h0, h1⟩
  obtain ⟨x, r, rfl⟩ := List.exists_cons_of_ne_nil hl
  have h0 := (one 0 x rfl).1
  rw [show (Addr.add ⟨bk, o, sp⟩ (0 * 2)) = ⟨bk, o, sp⟩ by simp [Addr.add]] at h0
  obtain rfl := cell_spot h0
  exact ⟨bk, o, rfl, World.block_lt_of_cell? w _ h0, fun j x hx => by have := one j x hx; rw [Addr.add_lit, Addr.add_lit] at this; exact this⟩

theorem get_ex {α : Type} (l : List α) (i : Nat) (h : i < l.length) : ∃ x, l[i]? = some x := ⟨_, List.getElem?_eq_getElem h⟩
theorem z_item : ∀ w, (Go.sizeOf 34).run Tryd.prog w = .ok 2 w := fun w => by kernel_rfl
theorem idx_items (n c i bk o : Nat) (A : Option Addr) (W : World) (hA : A = some ⟨bk, o, none⟩) (hi : i < n) :
    (Instr.indexAt 27 (.slice A n c) (.int .i64 (i : Int))).run Tryd.prog W = .ok (.pointer (some ⟨bk, o + i * 2, none⟩)) W := by
  subst hA
  have ht : Tryd.prog.underlying 27 = some (.slice (Tryd.prog.elem 27)) := by kernel_rfl
  have he : Tryd.prog.elem 27 = 34 := by kernel_rfl
  rw [run_indexAt_slice _ _ _ _ _ _ _ ht, he, if_pos ⟨by omega, by omega⟩, z_item]
  simp [Result.andThen, Addr.add_lit]
/-- The signs' map. -/
def sgnMap (s3 s4 s5 s6 s7 : ByteArray) : Array MapEntry := #[⟨.int .i64 2, .string s3, 0⟩, ⟨.int .i64 3, .string s4, 1⟩, ⟨.int .i64 4, .string s5, 2⟩, ⟨.int .i64 5, .string s6, 3⟩, ⟨.int .i64 6, .string s7, 4⟩]
theorem push_set {α : Type} (l : Array α) (o o' : α) : (l.push o).setIfInBounds l.size o' = l.push o' := by
  apply Array.ext
  · simp
  · intro i h1 h2
    rw [Array.getElem_setIfInBounds (by simpa using h1)]
    by_cases e : l.size = i
    · subst e; simp
    · rw [if_neg e, Array.getElem_push, Array.getElem_push]
      have : i < l.size := by simp at h1; omega
      simp [this]
theorem make_run (w : World) (t : TypeId) : (Instr.makeMap t none).run Tryd.prog w = .ok (.map (some w.heap.size)) (w.alloc (.map #[] 0)) := by
  simp [Instr.makeMap, go_sem]
theorem ins_run (w : World) (es : Array MapEntry) (c : Nat) (b : Nat) (k : Int) (x : Value) (hb : b = w.heap.size) (hn : Instr.findNow (.int .i64) (.int .i64 k) es.toList 0 = some none) :
    (Instr.mapUpdate 45 (.map (some b)) (.int .i64 k) x).run Tryd.prog (w.alloc (.map es c)) = .ok () (w.alloc (.map (es.push ⟨.int .i64 k, x, c⟩) (c + 1))) := by
  subst hb
  have hg : (w.alloc (.map es c)).heap[w.heap.size]? = some (.map es c) := heap_alloc_new _ _
  have hd : Tryd.prog.underlying 3 = some (.int .i64) := Tryd.underlying3
  simp [Instr.mapUpdate, run_underlying Tryd.underlying45, MapKept.run_getObj_map hg, MapKept.run_checkKey hd (show MapKept.IsKey (.int .i64) (.int .i64 k) from rfl), MapKept.run_findKey hd hn, MapKept.run_setObj_map _ hg, Result.andThen]
  exact congrArg (fun h => ({ w with heap := h } : World)) (push_set w.heap _ _)
theorem look_run (w : World) (s3 s4 s5 s6 s7 : ByteArray) (b : Nat) (k : Int) (c : Nat) (hb : w.heap[b]? = some (.map (sgnMap s3 s4 s5 s6 s7) c)) :
    (Instr.lookup 45 (.map (some b)) (.int .i64 k) true).run Tryd.prog w = .ok (.tuple #[.string (sgn s3 s4 s5 s6 s7 k).1, .bool (sgn s3 s4 s5 s6 s7 k).2]) w := by
  have hd : Tryd.prog.underlying 3 = some (.int .i64) := Tryd.underlying3
  have hz : ∀ w, (zeroValue 9).run Tryd.prog w = .ok (.string ⟨#[]⟩) w := fun w => by kernel_rfl
  have go : ∀ (a : Option (Nat × Value)), Instr.findNow (.int .i64) (.int .i64 k) (sgnMap s3 s4 s5 s6 s7).toList 0 = some a → (Instr.lookup 45 (.map (some b)) (.int .i64 k) true).run Tryd.prog w = match a with | some (_, v) => .ok (.tuple #[v, .bool true]) w | none => .ok (.tuple #[.string ⟨#[]⟩, .bool false]) w := fun a ha => by
    cases a with
    | none => simp [Instr.lookup, run_underlying Tryd.underlying45, MapKept.run_getObj_map hb, MapKept.run_checkKey hd (show MapKept.IsKey (.int .i64) (.int .i64 k) from rfl), MapKept.run_findKey hd ha, Result.andThen, hz]
    | some p => simp [Instr.lookup, run_underlying Tryd.underlying45, MapKept.run_getObj_map hb, MapKept.run_checkKey hd (show MapKept.IsKey (.int .i64) (.int .i64 k) from rfl), MapKept.run_findKey hd ha, Result.andThen]
  by_cases h2 : k = 2
  · subst h2; exact go (some (0, .string s3)) rfl
  by_cases h3 : k = 3
  · subst h3; exact go (some (1, .string s4)) rfl
  by_cases h4 : k = 4
  · subst h4; exact go (some (2, .string s5)) rfl
  by_cases h5 : k = 5
  · subst h5; exact go (some (3, .string s6)) rfl
  by_cases h6 : k = 6
  · subst h6; exact go (some (4, .string s7)) rfl
  have := go none (by simp [sgnMap, Instr.findNow, Instr.sameNow, beq_eq_false_iff_ne.2 h2, beq_eq_false_iff_ne.2 h3, beq_eq_false_iff_ne.2 h4, beq_eq_false_iff_ne.2 h5, beq_eq_false_iff_ne.2 h6])
  rw [this]
  unfold sgn
  simp only [if_neg h2, if_neg h3, if_neg h4, if_neg h5, if_neg h6]

set_option maxHeartbeats 8000000 in
set_option maxRecDepth 1000000 in
theorem symbol_Text.calls (z : Int) (s1 s2 s3 s4 s5 s6 s7 s8 : ByteArray) (A1 : Option Addr) (c1 : Nat) (l1 : List S34) (r : ByteArray) (w : World) (hr1 : Kd.C k34 w A1 l1.length l1) (hc1 : l1.length ≤ c1) (h : symbol_Text.f z s1 s2 s3 s4 s5 s6 s7 s8 l1 = some r) :
    Calls Tryd.prog 11 #[.agg #[.int .i32 z, .string s1, .string s2, .string s3, .string s4, .string s5, .string s6, .string s7, .string s8], .slice A1 l1.length c1] w fun e w' => e = .returned (.string r) ∧ Below w.heap.size w w' := by
  unfold symbol_Text.f at h
  by_cases hlim : (l1.length + 1) * (s3.size + s4.size + s5.size + s6.size + s7.size + 4) ≤ 140737488355328
  rotate_left
  · rw [if_neg hlim] at h; cases h
  rw [if_pos hlim] at h
  have HH := Lib.hid (Option.some.inj h)
  clear h
  go_enter Tryd.func11, Tryd.ntmps11
  obtain ⟨bx, hbx⟩ : ∃ bx, bx = Obj.cells #[.int .i32 z, .string s1, .string s2, .string s3, .string s4, .string s5, .string s6, .string s7, .string s8] 23 := ⟨_, rfl⟩
  have m0 := make_run (w.alloc bx) 45
  have i0 := ins_run (w.alloc bx) #[] 0 (w.heap.size + 1) 2 (.string s3) (by simp) rfl
  have i1 := ins_run (w.alloc bx) #[⟨.int .i64 2, .string s3, 0⟩] 1 (w.heap.size + 1) 3 (.string s4) (by simp) rfl
  have i2 := ins_run (w.alloc bx) #[⟨.int .i64 2, .string s3, 0⟩, ⟨.int .i64 3, .string s4, 1⟩] 2 (w.heap.size + 1) 4 (.string s5) (by simp) rfl
  have i3 := ins_run (w.alloc bx) #[⟨.int .i64 2, .string s3, 0⟩, ⟨.int .i64 3, .string s4, 1⟩, ⟨.int .i64 4, .string s5, 2⟩] 3 (w.heap.size + 1) 5 (.string s6) (by simp) rfl
  have i4 := ins_run (w.alloc bx) #[⟨.int .i64 2, .string s3, 0⟩, ⟨.int .i64 3, .string s4, 1⟩, ⟨.int .i64 4, .string s5, 2⟩, ⟨.int .i64 5, .string s6, 3⟩] 4 (w.heap.size + 1) 6 (.string s7) (by simp) rfl
  simp only [List.push_toArray, List.nil_append, List.cons_append] at i0 i1 i2 i3 i4
  subst hbx
  go_wp2
  obtain ⟨W0, hW0⟩ : ∃ W0 : World, W0 = (w.alloc (Obj.cells #[.int .i32 z, .string s1, .string s2, .string s3, .string s4, .string s5, .string s6, .string s7, .string s8] 23)).alloc (Obj.map (sgnMap s3 s4 s5 s6 s7) 5) := ⟨_, rfl⟩
  have hW0b : (w.alloc (Obj.cells #[.int .i32 z, .string s1, .string s2, .string s3, .string s4, .string s5, .string s6, .string s7, .string s8] 23)).alloc (Obj.map #[⟨.int .i64 2, .string s3, 0⟩, ⟨.int .i64 3, .string s4, 1⟩, ⟨.int .i64 4, .string s5, 2⟩, ⟨.int .i64 5, .string s6, 3⟩, ⟨.int .i64 6, .string s7, 4⟩] 5) = W0 := hW0.symm
  have hsz0 : W0.heap.size = w.heap.size + 1 + 1 := by rw [hW0]; simp
  have hmap0 : W0.heap[w.heap.size + 1]? = some (.map (sgnMap s3 s4 s5 s6 s7) 5) := by rw [hW0]; exact heap_alloc2_new _ _ _
  have hbw0 : Below w.heap.size w W0 := by rw [hW0]; exact ((Below.refl _ w).alloc (Nat.le_refl _) _).alloc (by simp) _
  simp only [hW0b]
  clear hW0 hW0b m0 i0 i1 i2 i3 i4
  obtain ⟨M, hM⟩ : ∃ M, M = s3.size + s4.size + s5.size + s6.size + s7.size + 4 := ⟨_, rfl⟩
  rw [← hM] at hlim
  have hsg : ∀ k, (sgn s3 s4 s5 s6 s7 k).1.size + 4 ≤ M := fun k => by
    unfold sgn
    repeat' split
    all_goals first | (dsimp only; omega) | (show 0 + 4 ≤ M; omega)
  have hMl : ∀ i, i < l1.length → i * M + M ≤ 140737488355328 := fun i hi => by
    have : (i + 1) * M ≤ (l1.length + 1) * M := Nat.mul_le_mul_right _ (by omega)
    rw [Nat.add_mul, Nat.one_mul] at this
    omega
  have hln : l1.length ≤ 140737488355328 := by
    have h4 : 1 ≤ M := by omega
    have := Nat.mul_le_mul_left (l1.length + 1) h4
    rw [Nat.mul_one] at this
    omega
  clear hlim hM
  go_loopw [25] (fun v25 wr => ∃ (i : Nat) (acc : List UInt8), v25 = .int .i64 i ∧ i ≤ l1.length ∧ Lib.IsBuilderF 49 5 (w.heap.size + 1 + 1) (w.heap.size + 1 + 1) (Lib.byteCells acc) wr ∧ Below (w.heap.size + 1 + 1) W0 wr ∧ Hid (itemsT s3 s4 s5 s6 s7 (l1.take i) = some acc) ∧ acc.length ≤ i * M) (fun v25 wr => l1.length - (RowKit.intOf v25).toNat)
  case atStart => exact ⟨0, [], rfl, Nat.zero_le _, by rw [← hsz0]; exact Lib.IsBuilderF.of (Lib.fresh_isBuilder 49 5 W0), by rw [← hsz0]; exact (Below.refl _ W0).alloc (Nat.le_refl _) _, Lib.hid rfl, by simp⟩
  case round =>
    obtain ⟨i, acc, rfl, hil, hI, hbw, hacc, hal⟩ := hrel
    have hsz : w.heap.size + 1 + 1 ≤ wr.heap.size := by have := hbw.size; omega
    have hmap : wr.heap[w.heap.size + 1]? = some (.map (sgnMap s3 s4 s5 s6 s7) 5) := (hbw.block _ (by omega)).trans hmap0
    by_cases hi : i < l1.length
    · obtain ⟨x, hx⟩ := get_ex l1 i hi
      obtain ⟨bk, o, hA1, hbk, hcells⟩ := items_at hr1 (fun e => by rw [e] at hi; simp at hi)
      have hia := fun W => idx_items l1.length c1 i bk o A1 W hA1 hi
      clear hA1
      have hc := hcells i x hx
      have hb1 : Below w.heap.size w wr := hbw0.trans (hbw.mono (by omega))
      have hcx0 := (hb1.cell (p := ⟨bk, o + i * 2, none⟩) hbk).trans hc.1
      have hcx1 := (hb1.cell (p := ⟨bk, o + i * 2 + 1, none⟩) hbk).trans hc.2
      have HX := Lib.hid hx
      have hlk := look_run (wr.alloc (Obj.cells #[.int .i64 x.f0, .int .i32 x.f1] 34)) s3 s4 s5 s6 s7 (w.heap.size + 1) x.f0 5 (by show (wr.heap.push _)[_]? = _; rw [Array.getElem?_push, if_neg (by omega)]; exact hmap)
      clear hx hc hcells hr1
      obtain ⟨k, q⟩ := x
      simp only at hcx0 hcx1 hlk
      have hsk : (sgn s3 s4 s5 s6 s7 k).1.size + 4 ≤ M := hsg k
      have hMi := hMl i hi
      obtain ⟨sg, hsgv⟩ : ∃ sg, sgn s3 s4 s5 s6 s7 k = sg := ⟨_, rfl⟩
      rw [hsgv] at hlk hsk
      obtain ⟨t, c⟩ := sg
      simp only at hlk
      replace hsk : t.size + 4 ≤ M := hsk
      have HS := Lib.hid hsgv
      clear hsgv
      by_cases hA : c = true ∧ q = 0
      · obtain ⟨rfl, rfl⟩ := hA
        go_wp2_with (go_at_call 21; refine (Tryd.Builder_WriteString_k (w.heap.size + 1 + 1) (w.heap.size + 1 + 1) _ t _ (hI.alloc _) (by rw [Lib.byteCells_length]; omega) (by simp; omega)).mono ?_; rintro e W1 ⟨rfl, h1, b1, k1⟩)
        go_roundw
        case rel =>
          have hb2 := ((Below.refl (w.heap.size + 1 + 1) wr).alloc (by omega) _).trans b1
          refine ⟨i + 1, acc ++ U.L t, by go_num, by omega, ?_, hbw.trans hb2, Lib.hid ?_, ?_⟩
          · rw [Lib.byteCells_append]; exact Or.inr h1
          · refine itemsT_succ s3 s4 s5 s6 s7 l1 i _ acc _ HX.out hacc.out ?_
            unfold itemT
            simp only [HS.out]
            rfl
          · rw [List.length_append, U.L_len, Nat.add_mul, Nat.one_mul]; omega
        case measure => simp [RowKit.intOf]; omega
      have hbad : ¬ (k = 1 ∧ Lib.validRune q = true) → (⟨#[]⟩ : ByteArray) = r := fun hn => by
        have hh := HH.out
        rw [itemsT_bad s3 s4 s5 s6 s7 l1 i _ HX.out (by
          unfold itemT
          simp only [HS.out]
          rw [if_neg hA, if_neg hn])] at hh
        exact hh
      have hBk : Below w.heap.size w wr := hb1
      by_cases hc1 : c = true
      · subst hc1
        have hq : ¬ q = 0 := fun e => hA ⟨rfl, e⟩
        have hq0 : (q == 0) = false := beq_eq_false_iff_ne.2 hq
        have hk1 : ¬ k = 1 := fun e => by
          have := HS.out
          rw [e] at this
          cases this
        have hk0 : (k == 1) = false := beq_eq_false_iff_ne.2 hk1
        have HN := Lib.hid (hbad (fun h => hk1 h.1))
        clear hbad hA hq hk1
        go_wp2
        go_ret
        exact ⟨by rw [← HN.out]; rfl, hBk.alloc hBk.size _⟩
      have hc0 : c = false := by simpa using hc1
      subst hc0
      clear hA hc1
      by_cases hk1 : k = 1
      · have hk0 : (k == 1) = true := by rw [hk1]; rfl
        have HK := Lib.hid hk1
        have HN2 : Hid (¬ Lib.validRune q = true → (⟨#[]⟩ : ByteArray) = r) := Lib.hid (fun hv => hbad (fun h => hv h.2))
        clear hbad hk1
        by_cases hv : Lib.validRune q = true
        · have hv2 : -2147483648 ≤ q ∧ q ≤ 2147483647 := by
            have := hv
            unfold Lib.validRune at this
            have := of_decide_eq_true this
            omega
          have hl4 := Lib.runeCells_le q
          rw [Lib.runeCells_length] at hl4
          go_wp2_with (first
            | (go_at_call 22; refine (scalar_any q _).mono ?_; rintro e w' ⟨rfl, rfl⟩)
            | (go_at_call 23; refine (Tryd.Builder_WriteRune_k (w.heap.size + 1 + 1) (w.heap.size + 1 + 1) _ q hv2.1 hv2.2 _ (hI.alloc _) (by rw [Lib.byteCells_length]; omega) (by simp; omega)).mono ?_; rintro e W1 ⟨rfl, h1, b1, k1⟩))
          go_roundw
          case rel =>
            have hb2 := ((Below.refl (w.heap.size + 1 + 1) wr).alloc (by omega) _).trans b1
            refine ⟨i + 1, acc ++ Lib.encodeRune q, by go_num, by omega, ?_, hbw.trans hb2, Lib.hid ?_, ?_⟩
            · rw [Lib.byteCells_append, Lib.byteCells_encodeRune]; exact Or.inr h1
            · refine itemsT_succ s3 s4 s5 s6 s7 l1 i _ acc _ HX.out hacc.out ?_
              unfold itemT
              simp only [HS.out]
              rw [if_neg (fun h => by cases h.1), if_pos ⟨HK.out, hv⟩]
            · rw [List.length_append, Nat.add_mul, Nat.one_mul]; omega
          case measure => simp [RowKit.intOf]; omega
        · have hv0 : Lib.validRune q = false := by simpa using hv
          have HN := Lib.hid (HN2.out hv)
          clear hv
          go_wp2_with (go_at_call 22; refine (scalar_any q _).mono ?_; rintro e w' ⟨rfl, rfl⟩)
          go_ret
          exact ⟨by rw [← HN.out]; rfl, hBk.alloc hBk.size _⟩
      · have hk0 : (k == 1) = false := beq_eq_false_iff_ne.2 hk1
        have HN := Lib.hid (hbad (fun h => hk1 h.1))
        clear hbad hk1
        go_wp2
        go_ret
        exact ⟨by rw [← HN.out]; rfl, hBk.alloc hBk.size _⟩
    · have hie : i = l1.length := by omega
      subst hie
      go_wp2_with (go_at_call 24; refine (Tryd.Builder_String_any_k (w.heap.size + 1 + 1) (w.heap.size + 1 + 1) acc _ hI hsz).mono ?_)
      rintro e W1 ⟨rfl, _, b1, _⟩
      go_wp2
      go_ret
      have ha := hacc.out
      rw [List.take_length] at ha
      have hh := HH.out
      rw [ha] at hh
      exact ⟨by rw [← hh]; rfl, hbw0.trans ((hbw.trans b1).mono (by omega))⟩
end Go.Proofs.YtngaeggnjfhnfaaDoor.Print
