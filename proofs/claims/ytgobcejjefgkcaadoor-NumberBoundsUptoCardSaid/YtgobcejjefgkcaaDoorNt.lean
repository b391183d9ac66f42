/- Statement NumberBounds: its walk. -/
import Derived.Test.YtgobcejjefgkcaaDoorNs
import Derived.Test.YtgobcejjefgkcaaDoorNtl
import Derived.Test.YtgobcejjefgkcaaDoorNsp
namespace Go.Proofs.YtgobcejjefgkcaaDoor.Print
open Go.RowKit Go.Proofs.YtgobcejjefgkcaaDoorW.PrintWords Go.Proofs.YtgobcejjefgkcaaDoorW.PrintLast Go.Proofs.YtgobcejjefgkcaaDoorW.PrintMore
set_option linter.unusedVariables false
set_option linter.unusedSimpArgs false

set_option maxHeartbeats 8000000 in
set_option maxRecDepth 1000000 in
theorem bounds_fail (s : ByteArray) (E : Int) (w : World) (hT : Tabs w) (hE : E ≠ 0)
    (HP : Hid (∀ W, Tabs W → Calls Tryd.prog 10 #[.string s] W fun e w' => e = .returned (.tuple #[.agg (patI 0 0 0 0 0 0 0 0 ⟨#[]⟩ false 0 false), .int .i64 E]) ∧ Below W.heap.size W w')) :
    Calls Tryd.prog 6 #[.string s] w fun e w' => e = .returned (.bool true) ∧ Below w.heap.size w w' := by
  have hne : (E != 0) = true := bne_iff_ne.2 hE
  have HT := Lib.hid hT
  have hsame : ∀ W, Calls Tryd.prog 12 #[.agg (patI 0 0 0 0 0 0 0 0 ⟨#[]⟩ false 0 false), .agg #[.slice none 0 0, .slice none 0 0, .bool false, .slice none 0 0, .slice none 0 0, .int .i64 0, .int .i64 0, .int .i64 0, .int .i64 0, .int .i64 0, .int .i64 0, .int .i64 0, .int .i64 0, .string ⟨#[]⟩, .bool false, .int .i64 0, .bool false, .int .i64 0, .int .i32 0, .int .i64 0]] W fun e w' => e = .returned (.bool true) ∧ Below W.heap.size W w' := fun W => same_self 0 0 0 0 0 0 0 0 ⟨#[]⟩ false 0 false W
  have HS := Lib.hid hsame
  clear hT hE hsame
  go_enter Tryd.func6, Tryd.ntmps6
  go_wp2_with (first
    | (go_at_call 10; (with_reducible refine (HP.out _ HT.out).mono ?_); rintro e W1 ⟨rfl, b1⟩; have HB1 := Lib.hid b1; clear b1)
    | ((with_reducible refine gate_store (t := 25) (p := 3) rfl ?_); refine store_new_event rfl rfl rfl W1.heap.size (patI 0 0 0 0 0 0 0 0 ⟨#[]⟩ false 0 false) _ 25 rfl rfl (heap_alloc_new W1 _) (by kernel_rfl) rfl (patI_one _ _ _ _ _ _ _ _ _ _ _ _) ?_; intro W2 hW2 hput; have HB2 := Lib.hid (hput.below (HB1.out.alloc HB1.out.size _) HB1.out.size); have HW2 := Lib.hid hW2; clear hput hW2)
    | (go_at_call 9; (with_reducible refine (answers_calls _ (Tabs_below HT.out HB2.out)).mono ?_); rintro e W3 ⟨rfl, b3⟩; have HB3 := Lib.hid (below_step HB2.out b3); have HW3 := Lib.hid (heap_keeps b3 HW2.out); clear b3)
    | ((with_reducible refine gate_dst (N := 15) rfl ?_); (try (refine gate_guard (by rfl) ?_; dsimp only)); refine wpList_load_mid rfl 25 (.tmp 3) rfl W1.heap.size 0 rfl (patI 0 0 0 0 0 0 0 0 ⟨#[]⟩ false 0 false).toList _ (row_range HW3.out) Tryd.underlying25 rfl (by kernel_rfl) ?_)
    | (go_at_call 12; (with_reducible refine (HS.out _).mono ?_); rintro e W5 ⟨rfl, b5⟩))
  go_ret
  exact ⟨rfl, below_step HB3.out b5⟩
set_option maxHeartbeats 8000000 in
set_option maxRecDepth 1000000 in
theorem bounds_ok (s : ByteArray) (mi ma mf xf ms xs pr se : Int) (ic : ByteArray) (sci : Bool) (me : Int) (pl : Bool) (w : World) (hT : Tabs w)
    (HP : Hid (∀ W, Tabs W → Calls Tryd.prog 10 #[.string s] W fun e w' => e = .returned (.tuple #[.agg (patI mi ma mf xf ms xs pr se ic sci me pl), .int .i64 0]) ∧ Below W.heap.size W w'))
    (f1 : mf ≤ xf) (f2 : ms ≤ xs) (f3 : xf ≤ 40) (f4 : xs ≤ 40) (f5 : mi ≤ 40) (f6 : ma ≤ 40) (f7 : ic.size ≤ 40) (f8 : me ≤ 9) (f9 : pr ≤ 40) (f10 : se ≤ 40)
    (g1 : 0 ≤ mi) (g2 : 0 ≤ ma) (g3 : 0 ≤ mf) (g4 : 0 ≤ ms) (g5 : 0 ≤ pr) (g6 : 0 ≤ se) (g7 : 0 ≤ me)
    (sg : 0 < ms → mi = 0 ∧ ma = 0 ∧ xf = 0 ∧ ic.size = 0) (hic : 0 < ic.size → sci = false ∧ mf = xf ∧ ∀ h : 0 < ic.size, ic[0]'h ≠ 48)
    (sp : sci = true → pr = 0) (pq : pr = 0 ↔ se = 0) (ex : sci = true ↔ 0 < me) (ns : sci = false → pl = false ∧ ma = 0) (sm : sci = true → ms = 0 → mi ≤ ma ∧ 0 < ma + xf) :
    Calls Tryd.prog 6 #[.string s] w fun e w' => e = .returned (.bool true) ∧ Below w.heap.size w w' := by
  have HT := Lib.hid hT
  have a1 : decide (xf < mf) = false := decide_eq_false (by omega)
  have a2 : decide (xs < ms) = false := decide_eq_false (by omega)
  have a3 : decide (40 < xf) = false := decide_eq_false (by omega)
  have a4 : decide (40 < xs) = false := decide_eq_false (by omega)
  have a5 : decide (40 < mi) = false := decide_eq_false (by omega)
  have a6 : decide (40 < ma) = false := decide_eq_false (by omega)
  have a7 : decide ((40 : Int) < (ic.size : Int)) = false := decide_eq_false (by omega)
  have a7b : ¬ (40 < ic.size) := by omega
  have a8 : decide (9 < me) = false := decide_eq_false (by omega)
  have a9 : decide (40 < pr) = false := decide_eq_false (by omega)
  have a10 : decide (40 < se) = false := decide_eq_false (by omega)
  clear hT
  by_cases hs : 0 < ms
  · obtain ⟨rfl, rfl, rfl, hz⟩ := sg hs
    have k5 : decide (0 < ms) = true := decide_eq_true hs
    cases sci with
    | true =>
      obtain rfl := sp rfl
      obtain rfl := pq.1 rfl
      have k6 : decide (0 < me) = true := decide_eq_true (ex.1 rfl)
      clear sg hic sp pq ex ns sm f1 f2 f3 f4 f5 f6 f7 f8 f9 f10 g1 g2 g3 g4 g5 g6 g7 hs
      go_enter Tryd.func6, Tryd.ntmps6
      go_wp2_with (first
        | (go_at_call 10; (with_reducible refine (HP.out _ HT.out).mono ?_); rintro e W1 ⟨rfl, b1⟩; have HB1 := Lib.hid b1; clear b1)
        | ((with_reducible refine gate_store (t := 25) (p := 3) rfl ?_); refine store_new_event rfl rfl rfl W1.heap.size (patI _ _ _ _ _ _ _ _ ic _ _ _) _ 25 rfl rfl (heap_alloc_new W1 _) (by kernel_rfl) rfl (patI_one _ _ _ _ _ _ _ _ _ _ _ _) ?_; intro W2 hW2 hput; have HB2 := Lib.hid (hput.below (HB1.out.alloc HB1.out.size _) HB1.out.size); have HW2 := Lib.hid hW2; obtain ⟨c5, c6, c7, c8, c9, c10, c11, c12, c13, c14, c15, c16⟩ := patI_cells hW2; clear hput hW2)
        | (go_at_call 9; (with_reducible refine (answers_calls _ (Tabs_below HT.out HB2.out)).mono ?_); rintro e W3 ⟨rfl, b3⟩; have HB3 := Lib.hid (below_step HB2.out b3); have hW3 := heap_keeps b3 HW2.out; obtain ⟨d5, d6, d7, d8, d9, d10, d11, d12, d13, d14, d15, d16⟩ := patI_cells hW3; clear b3 hW3))
      go_ret
      exact ⟨rfl, HB3.out⟩
    | false =>
      obtain rfl : me = 0 := by
        have := mt ex.2 (by simp)
        omega
      obtain ⟨rfl, -⟩ := ns rfl
      by_cases hp : pr = 0
      · subst hp
        obtain rfl := pq.1 rfl
        clear sg hic sp pq ex ns sm f1 f2 f3 f4 f5 f6 f7 f8 f9 f10 g1 g2 g3 g4 g5 g6 g7 hs
        go_enter Tryd.func6, Tryd.ntmps6
        go_wp2_with (first
          | (go_at_call 10; (with_reducible refine (HP.out _ HT.out).mono ?_); rintro e W1 ⟨rfl, b1⟩; have HB1 := Lib.hid b1; clear b1)
          | ((with_reducible refine gate_store (t := 25) (p := 3) rfl ?_); refine store_new_event rfl rfl rfl W1.heap.size (patI _ _ _ _ _ _ _ _ ic _ _ _) _ 25 rfl rfl (heap_alloc_new W1 _) (by kernel_rfl) rfl (patI_one _ _ _ _ _ _ _ _ _ _ _ _) ?_; intro W2 hW2 hput; have HB2 := Lib.hid (hput.below (HB1.out.alloc HB1.out.size _) HB1.out.size); have HW2 := Lib.hid hW2; obtain ⟨c5, c6, c7, c8, c9, c10, c11, c12, c13, c14, c15, c16⟩ := patI_cells hW2; clear hput hW2)
          | (go_at_call 9; (with_reducible refine (answers_calls _ (Tabs_below HT.out HB2.out)).mono ?_); rintro e W3 ⟨rfl, b3⟩; have HB3 := Lib.hid (below_step HB2.out b3); have hW3 := heap_keeps b3 HW2.out; obtain ⟨d5, d6, d7, d8, d9, d10, d11, d12, d13, d14, d15, d16⟩ := patI_cells hW3; clear b3 hW3))
        go_ret
        exact ⟨rfl, HB3.out⟩
      · have k7 : (pr == 0) = false := beq_eq_false_iff_ne.2 hp
        have k8 : (se == 0) = false := beq_eq_false_iff_ne.2 (fun e => hp (pq.2 e))
        clear sg hic sp pq ex ns sm f1 f2 f3 f4 f5 f6 f7 f8 f9 f10 g1 g2 g3 g4 g5 g6 g7 hs hp
        go_enter Tryd.func6, Tryd.ntmps6
        go_wp2_with (first
          | (go_at_call 10; (with_reducible refine (HP.out _ HT.out).mono ?_); rintro e W1 ⟨rfl, b1⟩; have HB1 := Lib.hid b1; clear b1)
          | ((with_reducible refine gate_store (t := 25) (p := 3) rfl ?_); refine store_new_event rfl rfl rfl W1.heap.size (patI _ _ _ _ _ _ _ _ ic _ _ _) _ 25 rfl rfl (heap_alloc_new W1 _) (by kernel_rfl) rfl (patI_one _ _ _ _ _ _ _ _ _ _ _ _) ?_; intro W2 hW2 hput; have HB2 := Lib.hid (hput.below (HB1.out.alloc HB1.out.size _) HB1.out.size); have HW2 := Lib.hid hW2; obtain ⟨c5, c6, c7, c8, c9, c10, c11, c12, c13, c14, c15, c16⟩ := patI_cells hW2; clear hput hW2)
          | (go_at_call 9; (with_reducible refine (answers_calls _ (Tabs_below HT.out HB2.out)).mono ?_); rintro e W3 ⟨rfl, b3⟩; have HB3 := Lib.hid (below_step HB2.out b3); have hW3 := heap_keeps b3 HW2.out; obtain ⟨d5, d6, d7, d8, d9, d10, d11, d12, d13, d14, d15, d16⟩ := patI_cells hW3; clear b3 hW3))
        go_ret
        exact ⟨rfl, HB3.out⟩
  · obtain rfl : ms = 0 := by omega
    cases sci with
    | true =>
      obtain rfl := sp rfl
      obtain rfl := pq.1 rfl
      have hz : ic.size = 0 := by
        rcases Nat.eq_zero_or_pos ic.size with h | h
        · exact h
        · exact absurd (hic h).1 (by simp)
      have k6 : decide (0 < me) = true := decide_eq_true (ex.1 rfl)
      obtain ⟨m1, m2⟩ := sm rfl rfl
      have k9 : decide (mi ≤ ma) = true := decide_eq_true m1
      have k10 : decide (0 < ma + xf) = true := decide_eq_true m2
      have k11 : -9223372036854775808 ≤ ma + xf := by omega
      have k12 : ma + xf ≤ 9223372036854775807 := by omega
      have k13 : decide (0 ≤ ma) = true := decide_eq_true g2
      clear sg hic sp pq ex ns sm f1 f2 f3 f4 f5 f6 f7 f8 f9 f10 g1 g2 g3 g4 g5 g6 g7 hs m1 m2
      go_enter Tryd.func6, Tryd.ntmps6
      go_wp2_with (first
        | (go_at_call 10; (with_reducible refine (HP.out _ HT.out).mono ?_); rintro e W1 ⟨rfl, b1⟩; have HB1 := Lib.hid b1; clear b1)
        | ((with_reducible refine gate_store (t := 25) (p := 3) rfl ?_); refine store_new_event rfl rfl rfl W1.heap.size (patI _ _ _ _ _ _ _ _ ic _ _ _) _ 25 rfl rfl (heap_alloc_new W1 _) (by kernel_rfl) rfl (patI_one _ _ _ _ _ _ _ _ _ _ _ _) ?_; intro W2 hW2 hput; have HB2 := Lib.hid (hput.below (HB1.out.alloc HB1.out.size _) HB1.out.size); have HW2 := Lib.hid hW2; obtain ⟨c5, c6, c7, c8, c9, c10, c11, c12, c13, c14, c15, c16⟩ := patI_cells hW2; clear hput hW2)
        | (go_at_call 9; (with_reducible refine (answers_calls _ (Tabs_below HT.out HB2.out)).mono ?_); rintro e W3 ⟨rfl, b3⟩; have HB3 := Lib.hid (below_step HB2.out b3); have hW3 := heap_keeps b3 HW2.out; obtain ⟨d5, d6, d7, d8, d9, d10, d11, d12, d13, d14, d15, d16⟩ := patI_cells hW3; clear b3 hW3))
      go_ret
      exact ⟨rfl, HB3.out⟩
    | false =>
      obtain rfl : me = 0 := by
        have := mt ex.2 (by simp)
        omega
      obtain ⟨rfl, rfl⟩ := ns rfl
      by_cases hi : 0 < ic.size
      · obtain ⟨-, rfl, h48⟩ := hic hi
        have k14 : decide ((0 : Int) < (ic.size : Int)) = true := decide_eq_true (by omega)
        have k15 : (((ic[0]'hi).toNat : Int) == 48) = false := beq_eq_false_iff_ne.2 (fun e => h48 hi (UInt8.toNat_inj.1 (by show (ic[0]'hi).toNat = 48; omega)))
        by_cases hp : pr = 0
        · subst hp
          obtain rfl := pq.1 rfl
          clear sg hic sp pq ex ns sm f1 f2 f3 f4 f5 f6 f7 f8 f9 f10 g1 g2 g3 g4 g5 g6 g7 hs h48
          go_enter Tryd.func6, Tryd.ntmps6
          go_wp2_with (first
            | (go_at_call 10; (with_reducible refine (HP.out _ HT.out).mono ?_); rintro e W1 ⟨rfl, b1⟩; have HB1 := Lib.hid b1; clear b1)
            | ((with_reducible refine gate_store (t := 25) (p := 3) rfl ?_); refine store_new_event rfl rfl rfl W1.heap.size (patI _ _ _ _ _ _ _ _ ic _ _ _) _ 25 rfl rfl (heap_alloc_new W1 _) (by kernel_rfl) rfl (patI_one _ _ _ _ _ _ _ _ _ _ _ _) ?_; intro W2 hW2 hput; have HB2 := Lib.hid (hput.below (HB1.out.alloc HB1.out.size _) HB1.out.size); have HW2 := Lib.hid hW2; obtain ⟨c5, c6, c7, c8, c9, c10, c11, c12, c13, c14, c15, c16⟩ := patI_cells hW2; clear hput hW2)
            | (go_at_call 9; (with_reducible refine (answers_calls _ (Tabs_below HT.out HB2.out)).mono ?_); rintro e W3 ⟨rfl, b3⟩; have HB3 := Lib.hid (below_step HB2.out b3); have hW3 := heap_keeps b3 HW2.out; obtain ⟨d5, d6, d7, d8, d9, d10, d11, d12, d13, d14, d15, d16⟩ := patI_cells hW3; clear b3 hW3))
          go_ret
          exact ⟨rfl, HB3.out⟩
        · have k7 : (pr == 0) = false := beq_eq_false_iff_ne.2 hp
          have k8 : (se == 0) = false := beq_eq_false_iff_ne.2 (fun e => hp (pq.2 e))
          clear sg hic sp pq ex ns sm f1 f2 f3 f4 f5 f6 f7 f8 f9 f10 g1 g2 g3 g4 g5 g6 g7 hs h48 hp
          go_enter Tryd.func6, Tryd.ntmps6
          go_wp2_with (first
            | (go_at_call 10; (with_reducible refine (HP.out _ HT.out).mono ?_); rintro e W1 ⟨rfl, b1⟩; have HB1 := Lib.hid b1; clear b1)
            | ((with_reducible refine gate_store (t := 25) (p := 3) rfl ?_); refine store_new_event rfl rfl rfl W1.heap.size (patI _ _ _ _ _ _ _ _ ic _ _ _) _ 25 rfl rfl (heap_alloc_new W1 _) (by kernel_rfl) rfl (patI_one _ _ _ _ _ _ _ _ _ _ _ _) ?_; intro W2 hW2 hput; have HB2 := Lib.hid (hput.below (HB1.out.alloc HB1.out.size _) HB1.out.size); have HW2 := Lib.hid hW2; obtain ⟨c5, c6, c7, c8, c9, c10, c11, c12, c13, c14, c15, c16⟩ := patI_cells hW2; clear hput hW2)
            | (go_at_call 9; (with_reducible refine (answers_calls _ (Tabs_below HT.out HB2.out)).mono ?_); rintro e W3 ⟨rfl, b3⟩; have HB3 := Lib.hid (below_step HB2.out b3); have hW3 := heap_keeps b3 HW2.out; obtain ⟨d5, d6, d7, d8, d9, d10, d11, d12, d13, d14, d15, d16⟩ := patI_cells hW3; clear b3 hW3))
          go_ret
          exact ⟨rfl, HB3.out⟩
      · have hz : ic.size = 0 := by omega
        by_cases hp : pr = 0
        · subst hp
          obtain rfl := pq.1 rfl
          clear sg hic sp pq ex ns sm f1 f2 f3 f4 f5 f6 f7 f8 f9 f10 g1 g2 g3 g4 g5 g6 g7 hs hi
          go_enter Tryd.func6, Tryd.ntmps6
          go_wp2_with (first
            | (go_at_call 10; (with_reducible refine (HP.out _ HT.out).mono ?_); rintro e W1 ⟨rfl, b1⟩; have HB1 := Lib.hid b1; clear b1)
            | ((with_reducible refine gate_store (t := 25) (p := 3) rfl ?_); refine store_new_event rfl rfl rfl W1.heap.size (patI _ _ _ _ _ _ _ _ ic _ _ _) _ 25 rfl rfl (heap_alloc_new W1 _) (by kernel_rfl) rfl (patI_one _ _ _ _ _ _ _ _ _ _ _ _) ?_; intro W2 hW2 hput; have HB2 := Lib.hid (hput.below (HB1.out.alloc HB1.out.size _) HB1.out.size); have HW2 := Lib.hid hW2; obtain ⟨c5, c6, c7, c8, c9, c10, c11, c12, c13, c14, c15, c16⟩ := patI_cells hW2; clear hput hW2)
            | (go_at_call 9; (with_reducible refine (answers_calls _ (Tabs_below HT.out HB2.out)).mono ?_); rintro e W3 ⟨rfl, b3⟩; have HB3 := Lib.hid (below_step HB2.out b3); have hW3 := heap_keeps b3 HW2.out; obtain ⟨d5, d6, d7, d8, d9, d10, d11, d12, d13, d14, d15, d16⟩ := patI_cells hW3; clear b3 hW3))
          go_ret
          exact ⟨rfl, HB3.out⟩
        · have k7 : (pr == 0) = false := beq_eq_false_iff_ne.2 hp
          have k8 : (se == 0) = false := beq_eq_false_iff_ne.2 (fun e => hp (pq.2 e))
          clear sg hic sp pq ex ns sm f1 f2 f3 f4 f5 f6 f7 f8 f9 f10 g1 g2 g3 g4 g5 g6 g7 hs hi hp
          go_enter Tryd.func6, Tryd.ntmps6
          go_wp2_with (first
            | (go_at_call 10; (with_reducible refine (HP.out _ HT.out).mono ?_); rintro e W1 ⟨rfl, b1⟩; have HB1 := Lib.hid b1; clear b1)
            | ((with_reducible refine gate_store (t := 25) (p := 3) rfl ?_); refine store_new_event rfl rfl rfl W1.heap.size (patI _ _ _ _ _ _ _ _ ic _ _ _) _ 25 rfl rfl (heap_alloc_new W1 _) (by kernel_rfl) rfl (patI_one _ _ _ _ _ _ _ _ _ _ _ _) ?_; intro W2 hW2 hput; have HB2 := Lib.hid (hput.below (HB1.out.alloc HB1.out.size _) HB1.out.size); have HW2 := Lib.hid hW2; obtain ⟨c5, c6, c7, c8, c9, c10, c11, c12, c13, c14, c15, c16⟩ := patI_cells hW2; clear hput hW2)
            | (go_at_call 9; (with_reducible refine (answers_calls _ (Tabs_below HT.out HB2.out)).mono ?_); rintro e W3 ⟨rfl, b3⟩; have HB3 := Lib.hid (below_step HB2.out b3); have hW3 := heap_keeps b3 HW2.out; obtain ⟨d5, d6, d7, d8, d9, d10, d11, d12, d13, d14, d15, d16⟩ := patI_cells hW3; clear b3 hW3))
          go_ret
          exact ⟨rfl, HB3.out⟩
theorem good_of {s : ByteArray} (h : (N.numN (N.L s)).2 = 0) : N.Good (N.numN (N.L s)).1 := by
  unfold N.numN at h ⊢
  split at h
  · rename_i h0; rw [if_pos h0]; exact N.say_good h0
  · rename_i h0; exact absurd h h0
theorem fail_of {s : ByteArray} (h : (N.numN (N.L s)).2 ≠ 0) : (N.numN (N.L s)).1 = N.np0 := by
  unfold N.numN at h ⊢
  split at h
  · exact absurd rfl h
  · rename_i h0; rw [if_neg h0]
def figureheadlaw15_NumberBounds.f (a0 : ByteArray) : Option Bool := if a0.size ≤ 1000000000 then some true else none
theorem figureheadlaw15_NumberBounds.calls (a0 : ByteArray) (r : Bool) (w : World) (hT : Tabs w) (h : figureheadlaw15_NumberBounds.f a0 = some r) :
    Calls Tryd.prog 6 #[.string a0] w fun e w' => e = .returned (.bool r) ∧ Below w.heap.size w w' := by
  unfold figureheadlaw15_NumberBounds.f at h
  split at h
  · rename_i hs
    obtain rfl := Option.some.inj h
    have hp := fun W hW => parse_calls a0 W hW hs
    by_cases h0 : (N.numN (N.L a0)).2 = 0
    · have g := good_of h0
      obtain ⟨p, hpp⟩ : ∃ p, p = (N.numN (N.L a0)).1 := ⟨_, rfl⟩
      rw [h0, ← hpp, patI_N] at hp
      rw [← hpp] at g
      refine bounds_ok a0 p.minInt p.maxInt p.minFrac p.maxFrac p.minSig p.maxSig p.prim p.sec (mkB p.inc) p.sci p.minExp p.plus w hT (Lib.hid hp) ?_ ?_ ?_ ?_ ?_ ?_ ?_ ?_ ?_ ?_ ?_ ?_ ?_ ?_ ?_ ?_ ?_ ?_ ?_ ?_ ?_ ?_ ?_ ?_
      · have := g.ff; omega
      · have := g.ss; omega
      · have := g.f40; omega
      · have := g.s40; omega
      · have := g.i40; omega
      · have := g.x40; omega
      · rw [mkB_size]; exact g.n40
      · have := g.e9; omega
      · have := g.p40; omega
      · have := g.q40; omega
      · omega
      · omega
      · omega
      · omega
      · omega
      · omega
      · omega
      · intro hm
        obtain ⟨e1, e2, e3, e4, e5⟩ := g.sg (by omega)
        exact ⟨by omega, by omega, by omega, by rw [mkB_size, e5]; rfl⟩
      · intro hi
        have hne : p.inc ≠ [] := fun e => by rw [e] at hi; exact absurd hi (by decide)
        obtain ⟨e1, e2⟩ := g.ic hne
        refine ⟨e1, by omega, fun hh he => g.i0 ?_⟩
        rw [List.head?_eq_getElem?]
        have hl : 0 < p.inc.length := by rw [mkB_size] at hh; exact hh
        have h1 : (mkB p.inc)[0]'hh = p.inc[0]'hl := rfl
        rw [h1] at he
        rw [List.getElem?_eq_getElem hl, he]
      · intro hsc; have := g.sp0 hsc; omega
      · have := g.pq; omega
      · rw [g.ex]; omega
      · intro hsc
        obtain ⟨e1, e2⟩ := g.ns hsc
        exact ⟨e1, by omega⟩
      · intro hsc hm
        obtain ⟨e1, e2⟩ := g.sm hsc (by omega)
        exact ⟨by omega, by omega⟩
    · rw [fail_of h0] at hp
      exact bounds_fail a0 _ w hT h0 (Lib.hid hp)
  · cases h
/-- The one pure statement of NumberBounds. -/
def figureheadlaw15_NumberBounds.Pure : Prop := ∀ (a0 : ByteArray), a0.size ≤ 140737488351232 → (a0.size + 1) ≤ 1048576 → figureheadlaw15_NumberBounds.f a0 = some true
end Go.Proofs.YtgobcejjefgkcaaDoor.Print
