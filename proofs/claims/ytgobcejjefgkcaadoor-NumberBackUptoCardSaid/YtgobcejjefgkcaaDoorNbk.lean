/- Statement NumberBack: its walk. -/
import Derived.Test.YtgobcejjefgkcaaDoorNsp
import Derived.Test.YtgobcejjefgkcaaDoorNtl
namespace Go.Proofs.YtgobcejjefgkcaaDoor.Print
open Go.RowKit Go.Proofs.YtgobcejjefgkcaaDoorW.PrintWords Go.Proofs.YtgobcejjefgkcaaDoorW.PrintLast Go.Proofs.YtgobcejjefgkcaaDoorW.PrintMore
set_option linter.unusedVariables false
set_option linter.unusedSimpArgs false

set_option maxHeartbeats 8000000 in
set_option maxRecDepth 1000000 in
theorem back_early (s : ByteArray) (m : Int) (cs : Array Value) (E : Int) (w : World) (hT : Tabs w) (h1 : cs.size = 20) (h2 : cs.all (·.oneCell') = true) (hE : 400 < s.size ∨ E ≠ 0)
    (HP : Hid (∀ W, Tabs W → Calls Tryd.prog 10 #[.string s] W fun e w' => e = .returned (.tuple #[.agg cs, .int .i64 E]) ∧ Below W.heap.size W w')) :
    Calls Tryd.prog 5 #[.string s, .int .u8 m] w fun e w' => e = .returned (.bool true) ∧ Below w.heap.size w w' := by
  have HT := Lib.hid hT
  have HSZ : Hid (cs.size = 20) := Lib.hid h1
  have HON := Lib.hid h2
  clear hT h1 h2
  by_cases h4 : 400 < s.size
  · have k4 : decide ((400 : Int) < (s.size : Int)) = true := decide_eq_true (by omega)
    clear hE
    go_enter Tryd.func5, Tryd.ntmps5
    go_wp2_with (first
      | (go_at_call 10; (with_reducible refine (HP.out _ HT.out).mono ?_); rintro e W1 ⟨rfl, b1⟩; have HB1 := Lib.hid b1; clear b1)
      | ((with_reducible refine gate_store (t := 25) (p := 5) rfl ?_); refine store_new_event rfl rfl rfl W1.heap.size cs _ 25 rfl rfl (heap_alloc_new W1 _) (by rw [HSZ.out]; kernel_rfl) (by rw [HSZ.out]; rfl) HON.out ?_; intro W2 hW2 hput; have HB2 := Lib.hid (hput.below (HB1.out.alloc HB1.out.size _) HB1.out.size); clear hput hW2)
      | (go_at_call 9; (with_reducible refine (answers_calls _ (Tabs_below HT.out HB2.out)).mono ?_); rintro e W3 ⟨rfl, b3⟩; have HB3 := Lib.hid (below_step HB2.out b3); clear b3))
    go_ret
    exact ⟨rfl, HB3.out⟩
  · have k4 : decide ((400 : Int) < (s.size : Int)) = false := decide_eq_false (by omega)
    have k5 : (E != 0) = true := bne_iff_ne.2 (hE.resolve_left h4)
    clear hE
    go_enter Tryd.func5, Tryd.ntmps5
    go_wp2_with (first
      | (go_at_call 10; (with_reducible refine (HP.out _ HT.out).mono ?_); rintro e W1 ⟨rfl, b1⟩; have HB1 := Lib.hid b1; clear b1)
      | ((with_reducible refine gate_store (t := 25) (p := 5) rfl ?_); refine store_new_event rfl rfl rfl W1.heap.size cs _ 25 rfl rfl (heap_alloc_new W1 _) (by rw [HSZ.out]; kernel_rfl) (by rw [HSZ.out]; rfl) HON.out ?_; intro W2 hW2 hput; have HB2 := Lib.hid (hput.below (HB1.out.alloc HB1.out.size _) HB1.out.size); clear hput hW2)
      | (go_at_call 9; (with_reducible refine (answers_calls _ (Tabs_below HT.out HB2.out)).mono ?_); rintro e W3 ⟨rfl, b3⟩; have HB3 := Lib.hid (below_step HB2.out b3); clear b3))
    go_ret
    exact ⟨rfl, HB3.out⟩
--BACKOK
set_option maxHeartbeats 8000000 in
set_option maxRecDepth 1000000 in
theorem back_ok (s t1 t2 : ByteArray) (m : Nat) (cs : Array Value) (sci : Bool) (w : World) (n0 n1 n2 : Nat) (hT : Tabs w) (h1 : cs.size = 20) (h2 : cs.all (·.oneCell') = true) (h14 : cs[14]? = some (.bool sci)) (h4 : n0 ≤ 400) (hm : m < 256)
    (z0 : s.size = n0) (z1 : t1.size = n1) (z2 : t2.size = n2) (hz1 : n1 ≤ n0) (hz2 : sci = false → n2 = n1 + m % 100)
    (HP : Hid (∀ W, Tabs W → Calls Tryd.prog 10 #[.string s] W fun e w' => e = .returned (.tuple #[.agg cs, .int .i64 0]) ∧ Below W.heap.size W w'))
    (HP1 : Hid (∀ W, Tabs W → Calls Tryd.prog 10 #[.string t1] W fun e w' => e = .returned (.tuple #[.agg cs, .int .i64 0]) ∧ Below W.heap.size W w'))
    (HP2 : Hid (∀ W, Tabs W → Calls Tryd.prog 10 #[.string t2] W fun e w' => e = .returned (.tuple #[.agg cs, .int .i64 0]) ∧ Below W.heap.size W w'))
    (HQ1 : Hid (∀ W, Calls Tryd.prog 13 #[.agg cs, .int .i64 0] W fun e w' => e = .returned (.string t1) ∧ Below W.heap.size W w'))
    (HQ2 : Hid (∀ W, Calls Tryd.prog 13 #[.agg cs, .int .i64 ((m : Int) % 100)] W fun e w' => e = .returned (.string t2) ∧ Below W.heap.size W w'))
    (HS : Hid (∀ W, Calls Tryd.prog 12 #[.agg cs, .agg cs] W fun e w' => e = .returned (.bool true) ∧ Below W.heap.size W w')) :
    Calls Tryd.prog 5 #[.string s, .int .u8 (m : Int)] w fun e w' => e = .returned (.bool true) ∧ Below w.heap.size w w' := by
  have HT := Lib.hid hT
  have HSZ : Hid (cs.size = 20) := Lib.hid h1
  have HON := Lib.hid h2
  have H14 := Lib.hid h14
  have hTA := arr_back cs
  have k4 : decide ((400 : Int) < (n0 : Int)) = false := decide_eq_false (by omega)
  have k4b : ¬ (400 < n0) := by omega
  have k6 : decide ((n1 : Int) ≤ (n0 : Int)) = true := decide_eq_true (by omega)
  have hn1 : n1 ≤ 400 := by omega
  have m0 : (0 : Int) ≤ (m : Int) % 100 := by omega
  have m1 : (m : Int) % 100 < 100 := by omega
  have m2 : (m : Int).tmod 100 = (m : Int) % 100 := Int.tmod_eq_emod_of_nonneg (Int.natCast_nonneg m)
  have m3 : IntKind.u8.wrap ((m : Int) % 100) = (m : Int) % 100 := by rw [IntKind.wrap_u8']; omega
  have m4 : IntKind.i64.wrap ((m : Int) % 100) = (m : Int) % 100 := (i64_w _).trans (wz (by omega) (by omega))
  have m5 : IntKind.i64.wrap ((n1 : Int) + (m : Int) % 100) = (n1 : Int) + (m : Int) % 100 := (i64_w _).trans (wz (by omega) (by omega))
  clear hT h1 h2 h14
  cases sci with
  | true =>
    clear hz2
    go_enter Tryd.func5, Tryd.ntmps5
    go_wp2_with (first
      | (go_at_call 12; (with_reducible refine (HS.out _).mono ?_); rintro e W11 ⟨rfl, b11⟩; have HB11 := Lib.hid (below_step HB10.out b11); have HA11 := Lib.hid (heap_keeps b11 HA10.out); have d14 := (blk_cell HA11.out 14).trans H14.out; clear b11)
      | ((with_reducible refine gate_dst (N := 57) rfl ?_); (try (refine gate_guard (by rfl) ?_; dsimp only)); refine wpList_load_mid rfl 25 (.tmp 10) rfl W7.heap.size 0 rfl cs.toList _ (row_range HD10.out) Tryd.underlying25 rfl (by rw [Array.length_toList, HSZ.out]; kernel_rfl) ?_)
      | ((with_reducible refine gate_dst (N := 56) rfl ?_); (try (refine gate_guard (by rfl) ?_; dsimp only)); refine wpList_load_mid rfl 25 (.tmp 5) rfl W1.heap.size 0 rfl cs.toList _ (row_range HA10.out) Tryd.underlying25 rfl (by rw [Array.length_toList, HSZ.out]; kernel_rfl) ?_)
      | (go_at_call 12; (with_reducible refine (HS.out _).mono ?_); rintro e W10 ⟨rfl, b10⟩; have HB10 := Lib.hid (below_step HB9.out b10); have HA10 := Lib.hid (heap_keeps b10 HA9.out); have HD10 := Lib.hid (heap_keeps b10 HD9.out); clear b10)
      | ((with_reducible refine gate_dst (N := 48) rfl ?_); (try (refine gate_guard (by rfl) ?_; dsimp only)); refine wpList_load_mid rfl 25 (.tmp 8) rfl W4.heap.size 0 rfl cs.toList _ (row_range HC9.out) Tryd.underlying25 rfl (by rw [Array.length_toList, HSZ.out]; kernel_rfl) ?_)
      | ((with_reducible refine gate_dst (N := 47) rfl ?_); (try (refine gate_guard (by rfl) ?_; dsimp only)); refine wpList_load_mid rfl 25 (.tmp 5) rfl W1.heap.size 0 rfl cs.toList _ (row_range HA9.out) Tryd.underlying25 rfl (by rw [Array.length_toList, HSZ.out]; kernel_rfl) ?_)
      | (go_at_call 9; (with_reducible refine (answers_calls _ (Tabs_below HT.out HB8.out)).mono ?_); rintro e W9 ⟨rfl, b9⟩; have HB9 := Lib.hid (below_step HB8.out b9); have HA9 := Lib.hid (heap_keeps b9 HA8.out); have HC9 := Lib.hid (heap_keeps b9 HC8.out); have HD9 := Lib.hid (heap_keeps b9 HD8.out); clear b9)
      | ((with_reducible refine gate_store (t := 25) (p := 10) rfl ?_); refine store_new_event rfl rfl rfl W7.heap.size cs _ 25 rfl rfl (heap_alloc_new W7 _) (by rw [HSZ.out]; kernel_rfl) (by rw [HSZ.out]; rfl) HON.out ?_; intro W8 hW8 hput; have HB8 := Lib.hid (hput.below (HB7.out.alloc HB7.out.size _) HB7.out.size); have HA8 := Lib.hid (hput.other (blk_alloc HA7.out _) (Nat.ne_of_lt (blk_lt HA7.out))); have HC8 := Lib.hid (hput.other (blk_alloc HC7.out _) (Nat.ne_of_lt (blk_lt HC7.out))); have HD8 := Lib.hid hW8; clear hput hW8)
      | (go_at_call 10; (with_reducible refine (HP2.out _ (Tabs_below HT.out HB6.out)).mono ?_); rintro e W7 ⟨rfl, b7⟩; have HB7 := Lib.hid (below_step HB6.out b7); have HA7 := Lib.hid (heap_keeps b7 HA6.out); have HC7 := Lib.hid (heap_keeps b7 HC6.out); clear b7)
      | (go_at_call 13; (with_reducible refine (HQ2.out _).mono ?_); rintro e W6 ⟨rfl, b6⟩; have HB6 := Lib.hid (below_step HB5.out b6); have HA6 := Lib.hid (heap_keeps b6 HA5.out); have HC6 := Lib.hid (heap_keeps b6 HC5.out); clear b6)
      | ((with_reducible refine gate_dst (N := 33) rfl ?_); (try (refine gate_guard (by rfl) ?_; dsimp only)); refine wpList_load_mid rfl 25 (.tmp 5) rfl W1.heap.size 0 rfl cs.toList _ (row_range HA5.out) Tryd.underlying25 rfl (by rw [Array.length_toList, HSZ.out]; kernel_rfl) ?_)
      | ((with_reducible refine gate_store (t := 25) (p := 8) rfl ?_); refine store_new_event rfl rfl rfl W4.heap.size cs _ 25 rfl rfl (heap_alloc_new W4 _) (by rw [HSZ.out]; kernel_rfl) (by rw [HSZ.out]; rfl) HON.out ?_; intro W5 hW5 hput; have HB5 := Lib.hid (hput.below (HB4.out.alloc HB4.out.size _) HB4.out.size); have HA5 := Lib.hid (hput.other (blk_alloc HA4.out _) (Nat.ne_of_lt (blk_lt HA4.out))); have HC5 := Lib.hid hW5; clear hput hW5)
      | (go_at_call 10; (with_reducible refine (HP1.out _ (Tabs_below HT.out HB3.out)).mono ?_); rintro e W4 ⟨rfl, b4⟩; have HB4 := Lib.hid (below_step HB3.out b4); have HA4 := Lib.hid (heap_keeps b4 HA3.out); clear b4)
      | (go_at_call 13; (with_reducible refine (HQ1.out _).mono ?_); rintro e W3 ⟨rfl, b3⟩; have HB3 := Lib.hid (below_step HB2.out b3); have HA3 := Lib.hid (heap_keeps b3 HA2.out); clear b3)
      | ((with_reducible refine gate_dst (N := 25) rfl ?_); (try (refine gate_guard (by rfl) ?_; dsimp only)); refine wpList_load_mid rfl 25 (.tmp 5) rfl W1.heap.size 0 rfl cs.toList _ (row_range HA2.out) Tryd.underlying25 rfl (by rw [Array.length_toList, HSZ.out]; kernel_rfl) ?_)
      | ((with_reducible refine gate_store (t := 25) (p := 5) rfl ?_); refine store_new_event rfl rfl rfl W1.heap.size cs _ 25 rfl rfl (heap_alloc_new W1 _) (by rw [HSZ.out]; kernel_rfl) (by rw [HSZ.out]; rfl) HON.out ?_; intro W2 hW2 hput; have HB2 := Lib.hid (hput.below (HB1.out.alloc HB1.out.size _) HB1.out.size); have HA2 := Lib.hid hW2; clear hput hW2)
      | (go_at_call 10; (with_reducible refine (HP.out _ HT.out).mono ?_); rintro e W1 ⟨rfl, b1⟩; have HB1 := Lib.hid b1; clear b1))
    go_ret
    exact ⟨rfl, HB11.out⟩
  | false =>
    have k7 : (n2 : Int) = (n1 : Int) + (m : Int) % 100 := by have := hz2 rfl; omega
    have k8 : ((n2 : Int) == (n1 : Int) + (m : Int) % 100) = true := by rw [k7]; exact beq_self_eq_true _
    clear hz2 k7
    go_enter Tryd.func5, Tryd.ntmps5
    go_wp2_with (first
      | (go_at_call 13; (with_reducible refine (HQ2.out _).mono ?_); rintro e W12 ⟨rfl, b12⟩; have HB12 := Lib.hid (below_step HB11.out b12); clear b12)
      | ((with_reducible refine gate_dst (N := 71) rfl ?_); (try (refine gate_guard (by rfl) ?_; dsimp only)); refine wpList_load_mid rfl 25 (.tmp 5) rfl W1.heap.size 0 rfl cs.toList _ (row_range HA11.out) Tryd.underlying25 rfl (by rw [Array.length_toList, HSZ.out]; kernel_rfl) ?_)
      | (go_at_call 12; (with_reducible refine (HS.out _).mono ?_); rintro e W11 ⟨rfl, b11⟩; have HB11 := Lib.hid (below_step HB10.out b11); have HA11 := Lib.hid (heap_keeps b11 HA10.out); have d14 := (blk_cell HA11.out 14).trans H14.out; clear b11)
      | ((with_reducible refine gate_dst (N := 57) rfl ?_); (try (refine gate_guard (by rfl) ?_; dsimp only)); refine wpList_load_mid rfl 25 (.tmp 10) rfl W7.heap.size 0 rfl cs.toList _ (row_range HD10.out) Tryd.underlying25 rfl (by rw [Array.length_toList, HSZ.out]; kernel_rfl) ?_)
      | ((with_reducible refine gate_dst (N := 56) rfl ?_); (try (refine gate_guard (by rfl) ?_; dsimp only)); refine wpList_load_mid rfl 25 (.tmp 5) rfl W1.heap.size 0 rfl cs.toList _ (row_range HA10.out) Tryd.underlying25 rfl (by rw [Array.length_toList, HSZ.out]; kernel_rfl) ?_)
      | (go_at_call 12; (with_reducible refine (HS.out _).mono ?_); rintro e W10 ⟨rfl, b10⟩; have HB10 := Lib.hid (below_step HB9.out b10); have HA10 := Lib.hid (heap_keeps b10 HA9.out); have HD10 := Lib.hid (heap_keeps b10 HD9.out); clear b10)
      | ((with_reducible refine gate_dst (N := 48) rfl ?_); (try (refine gate_guard (by rfl) ?_; dsimp only)); refine wpList_load_mid rfl 25 (.tmp 8) rfl W4.heap.size 0 rfl cs.toList _ (row_range HC9.out) Tryd.underlying25 rfl (by rw [Array.length_toList, HSZ.out]; kernel_rfl) ?_)
      | ((with_reducible refine gate_dst (N := 47) rfl ?_); (try (refine gate_guard (by rfl) ?_; dsimp only)); refine wpList_load_mid rfl 25 (.tmp 5) rfl W1.heap.size 0 rfl cs.toList _ (row_range HA9.out) Tryd.underlying25 rfl (by rw [Array.length_toList, HSZ.out]; kernel_rfl) ?_)
      | (go_at_call 9; (with_reducible refine (answers_calls _ (Tabs_below HT.out HB8.out)).mono ?_); rintro e W9 ⟨rfl, b9⟩; have HB9 := Lib.hid (below_step HB8.out b9); have HA9 := Lib.hid (heap_keeps b9 HA8.out); have HC9 := Lib.hid (heap_keeps b9 HC8.out); have HD9 := Lib.hid (heap_keeps b9 HD8.out); clear b9)
      | ((with_reducible refine gate_store (t := 25) (p := 10) rfl ?_); refine store_new_event rfl rfl rfl W7.heap.size cs _ 25 rfl rfl (heap_alloc_new W7 _) (by rw [HSZ.out]; kernel_rfl) (by rw [HSZ.out]; rfl) HON.out ?_; intro W8 hW8 hput; have HB8 := Lib.hid (hput.below (HB7.out.alloc HB7.out.size _) HB7.out.size); have HA8 := Lib.hid (hput.other (blk_alloc HA7.out _) (Nat.ne_of_lt (blk_lt HA7.out))); have HC8 := Lib.hid (hput.other (blk_alloc HC7.out _) (Nat.ne_of_lt (blk_lt HC7.out))); have HD8 := Lib.hid hW8; clear hput hW8)
      | (go_at_call 10; (with_reducible refine (HP2.out _ (Tabs_below HT.out HB6.out)).mono ?_); rintro e W7 ⟨rfl, b7⟩; have HB7 := Lib.hid (below_step HB6.out b7); have HA7 := Lib.hid (heap_keeps b7 HA6.out); have HC7 := Lib.hid (heap_keeps b7 HC6.out); clear b7)
      | (go_at_call 13; (with_reducible refine (HQ2.out _).mono ?_); rintro e W6 ⟨rfl, b6⟩; have HB6 := Lib.hid (below_step HB5.out b6); have HA6 := Lib.hid (heap_keeps b6 HA5.out); have HC6 := Lib.hid (heap_keeps b6 HC5.out); clear b6)
      | ((with_reducible refine gate_dst (N := 33) rfl ?_); (try (refine gate_guard (by rfl) ?_; dsimp only)); refine wpList_load_mid rfl 25 (.tmp 5) rfl W1.heap.size 0 rfl cs.toList _ (row_range HA5.out) Tryd.underlying25 rfl (by rw [Array.length_toList, HSZ.out]; kernel_rfl) ?_)
      | ((with_reducible refine gate_store (t := 25) (p := 8) rfl ?_); refine store_new_event rfl rfl rfl W4.heap.size cs _ 25 rfl rfl (heap_alloc_new W4 _) (by rw [HSZ.out]; kernel_rfl) (by rw [HSZ.out]; rfl) HON.out ?_; intro W5 hW5 hput; have HB5 := Lib.hid (hput.below (HB4.out.alloc HB4.out.size _) HB4.out.size); have HA5 := Lib.hid (hput.other (blk_alloc HA4.out _) (Nat.ne_of_lt (blk_lt HA4.out))); have HC5 := Lib.hid hW5; clear hput hW5)
      | (go_at_call 10; (with_reducible refine (HP1.out _ (Tabs_below HT.out HB3.out)).mono ?_); rintro e W4 ⟨rfl, b4⟩; have HB4 := Lib.hid (below_step HB3.out b4); have HA4 := Lib.hid (heap_keeps b4 HA3.out); clear b4)
      | (go_at_call 13; (with_reducible refine (HQ1.out _).mono ?_); rintro e W3 ⟨rfl, b3⟩; have HB3 := Lib.hid (below_step HB2.out b3); have HA3 := Lib.hid (heap_keeps b3 HA2.out); clear b3)
      | ((with_reducible refine gate_dst (N := 25) rfl ?_); (try (refine gate_guard (by rfl) ?_; dsimp only)); refine wpList_load_mid rfl 25 (.tmp 5) rfl W1.heap.size 0 rfl cs.toList _ (row_range HA2.out) Tryd.underlying25 rfl (by rw [Array.length_toList, HSZ.out]; kernel_rfl) ?_)
      | ((with_reducible refine gate_store (t := 25) (p := 5) rfl ?_); refine store_new_event rfl rfl rfl W1.heap.size cs _ 25 rfl rfl (heap_alloc_new W1 _) (by rw [HSZ.out]; kernel_rfl) (by rw [HSZ.out]; rfl) HON.out ?_; intro W2 hW2 hput; have HB2 := Lib.hid (hput.below (HB1.out.alloc HB1.out.size _) HB1.out.size); have HA2 := Lib.hid hW2; clear hput hW2)
      | (go_at_call 10; (with_reducible refine (HP.out _ HT.out).mono ?_); rintro e W1 ⟨rfl, b1⟩; have HB1 := Lib.hid b1; clear b1))
    go_ret
    exact ⟨rfl, HB12.out⟩
theorem numN_good {s : N.Bs} (h : (N.numN s).2 = 0) : N.Good (N.numN s).1 ∧ (N.printN (N.numN s).1 0).length ≤ s.length := by
  unfold N.numN at h ⊢
  split at h
  · rename_i h0; rw [if_pos h0]; exact ⟨N.say_good h0, N.print_short h0⟩
  · rename_i h0; exact absurd h h0
theorem back_calls (s : ByteArray) (m : Nat) (hm : m < 256) (hs : s.size ≤ 1000000000) (w : World) (hT : Tabs w) :
    Calls Tryd.prog 5 #[.string s, .int .u8 (m : Int)] w fun e w' => e = .returned (.bool true) ∧ Below w.heap.size w w' := by
  by_cases h : 400 < s.size ∨ (N.numN (N.L s)).2 ≠ 0
  · exact back_early s m (patN (N.numN (N.L s)).1) (N.numN (N.L s)).2 w hT rfl (patN_one _) h (Lib.hid fun W hW => parse_calls s W hW hs)
  · have h4 : s.size ≤ 400 := by omega
    have hE : (N.numN (N.L s)).2 = 0 := Classical.not_not.1 fun e => h (.inr e)
    obtain ⟨g, hl⟩ := numN_good hE
    have hp : ∀ W, Tabs W → Calls Tryd.prog 10 #[.string s] W fun e w' => e = .returned (.tuple #[.agg (patN (N.numN (N.L s)).1), .int .i64 (N.numN (N.L s)).2]) ∧ Below W.heap.size W w' := fun W hW => parse_calls s W hW hs
    rw [hE] at hp
    obtain ⟨p, hpp⟩ : ∃ p, p = (N.numN (N.L s)).1 := ⟨_, rfl⟩
    rw [← hpp] at hp g hl
    rw [N.L_len] at hl
    have hlen : ∀ k : Int, (N.printN p k).length = (if p.sci then 0 else k.toNat) + (N.printN p 0).length := fun k => by
      rw [N.print_more g k, List.length_append]
      cases p.sci <;> simp [N.rp_len]
    have hpar : ∀ k : Int, k ≤ 1000 → ∀ W, Tabs W → Calls Tryd.prog 10 #[.string (mkB (N.printN p k))] W fun e w' => e = .returned (.tuple #[.agg (patN p), .int .i64 0]) ∧ Below W.heap.size W w' := fun k hk W hW => by
      have hz : (mkB (N.printN p k)).size ≤ 1000000000 := by
        rw [mkB_size, hlen k]
        split <;> omega
      have := parse_calls (mkB (N.printN p k)) W hW hz
      rw [L_mkB, N.print_back g k] at this
      exact this
    refine back_ok s (mkB (N.printN p 0)) (mkB (N.printN p ((m : Int) % 100))) m (patN p) p.sci w s.size _ _ hT rfl (patN_one _) rfl h4 hm rfl (mkB_size _) (mkB_size _) hl ?_ (Lib.hid hp) (Lib.hid (hpar 0 (by omega))) (Lib.hid (hpar _ (by omega))) (Lib.hid fun W => print_calls p g 0 (by omega) W) (Lib.hid fun W => print_calls p g _ (by omega) W) (Lib.hid fun W => same_self _ _ _ _ _ _ _ _ _ _ _ _ W)
    intro hsc
    rw [hlen, hsc]
    simp only [Bool.false_eq_true, if_false]
    omega
def figureheadlaw15_NumberBack.f (a0 : ByteArray) (a1 : Int) : Option Bool := if a0.size ≤ 1000000000 ∧ 0 ≤ a1 ∧ a1 < 256 then some true else none
theorem figureheadlaw15_NumberBack.calls (a0 : ByteArray) (a1 : Int) (r : Bool) (w : World) (hT : Tabs w) (h : figureheadlaw15_NumberBack.f a0 a1 = some r) :
    Calls Tryd.prog 5 #[.string a0, .int .u8 a1] w fun e w' => e = .returned (.bool r) ∧ Below w.heap.size w w' := by
  unfold figureheadlaw15_NumberBack.f at h
  split at h
  · rename_i hb
    obtain ⟨hs, h0, h1⟩ := hb
    obtain rfl := Option.some.inj h
    obtain ⟨m, rfl⟩ : ∃ m : Nat, a1 = (m : Int) := ⟨a1.toNat, by omega⟩
    exact back_calls a0 m (by omega) hs w hT
  · cases h
/-- The one pure statement of NumberBack. -/
def figureheadlaw15_NumberBack.Pure : Prop := ∀ (a0 : ByteArray) (a1 : Int), a0.size ≤ 140737488351232 → (Lit.int .u8 a1).wf = true → (a0.size + 1) + 1 ≤ 1048576 → figureheadlaw15_NumberBack.f a0 a1 = some true
end Go.Proofs.YtgobcejjefgkcaaDoor.Print
