/- Statement NumberParses: its walk. -/
import Derived.Test.YtgobcejjefgkcaaDoorNsp
import Derived.Test.YtgobcejjefgkcaaDoorNtl
import Derived.Test.YtgobcejjefgkcaaDoorNwb
namespace Go.Proofs.YtgobcejjefgkcaaDoor.Print
open Go.RowKit Go.Proofs.YtgobcejjefgkcaaDoorW.PrintWords Go.Proofs.YtgobcejjefgkcaaDoorW.PrintLast Go.Proofs.YtgobcejjefgkcaaDoorW.PrintMore
set_option linter.unusedVariables false
set_option linter.unusedSimpArgs false

set_option maxHeartbeats 8000000 in
set_option maxRecDepth 1000000 in
theorem parses_long (s : ByteArray) (w : World) (hT : Tabs w) (h4 : 400 < s.size) :
    Calls Tryd.prog 3 #[.string s] w fun e w' => e = .returned (.bool true) ∧ Below w.heap.size w w' := by
  have HT := Lib.hid hT
  have k4 : decide ((400 : Int) < (s.size : Int)) = true := decide_eq_true (by omega)
  clear hT
  go_enter Tryd.func3, Tryd.ntmps3
  go_wp2_with (go_at_call 9; (with_reducible refine (answers_calls _ HT.out).mono ?_); rintro e W1 ⟨rfl, b1⟩)
  go_ret
  exact ⟨rfl, b1⟩
set_option maxHeartbeats 8000000 in
set_option maxRecDepth 1000000 in
theorem parses_ok (s : ByteArray) (cs : Array Value) (E : Int) (w : World) (n0 : Nat) (hT : Tabs w) (h1 : cs.size = 20) (h2 : cs.all (·.oneCell') = true) (z0 : s.size = n0) (h4 : n0 ≤ 400)
    (HP : Hid (∀ W, Tabs W → Calls Tryd.prog 10 #[.string s] W fun e w' => e = .returned (.tuple #[.agg cs, .int .i64 E]) ∧ Below W.heap.size W w'))
    (HN : Hid (∀ W, Calls Tryd.prog 11 #[.string s] W fun e w' => e = .returned (.tuple #[.agg cs, .int .i64 E]) ∧ Below W.heap.size W w'))
    (HS : Hid (∀ W, Calls Tryd.prog 12 #[.agg cs, .agg cs] W fun e w' => e = .returned (.bool true) ∧ Below W.heap.size W w')) :
    Calls Tryd.prog 3 #[.string s] w fun e w' => e = .returned (.bool true) ∧ Below w.heap.size w w' := by
  have HT := Lib.hid hT
  have HSZ : Hid (cs.size = 20) := Lib.hid h1
  have HON := Lib.hid h2
  have hTA := arr_back cs
  have k4 : decide ((400 : Int) < (n0 : Int)) = false := decide_eq_false (by omega)
  have k4b : ¬ (400 < n0) := by omega
  have k5 : (E == E) = true := beq_self_eq_true _
  clear hT h1 h2
  go_enter Tryd.func3, Tryd.ntmps3
  go_wp2_with (first
    | (go_at_call 12; (with_reducible refine (HS.out _).mono ?_); rintro e W6 ⟨rfl, b6⟩; have HB6 := Lib.hid (below_step HB5.out b6); clear b6)
    | ((with_reducible refine gate_dst (N := 29) rfl ?_); (try (refine gate_guard (by rfl) ?_; dsimp only)); refine wpList_load_mid rfl 25 (.tmp 5) rfl W3.heap.size 0 rfl cs.toList _ (row_range HC5.out) Tryd.underlying25 rfl (by rw [Array.length_toList, HSZ.out]; kernel_rfl) ?_)
    | ((with_reducible refine gate_dst (N := 28) rfl ?_); (try (refine gate_guard (by rfl) ?_; dsimp only)); refine wpList_load_mid rfl 25 (.tmp 3) rfl W1.heap.size 0 rfl cs.toList _ (row_range HA5.out) Tryd.underlying25 rfl (by rw [Array.length_toList, HSZ.out]; kernel_rfl) ?_)
    | (go_at_call 9; (with_reducible refine (answers_calls _ (Tabs_below HT.out HB4.out)).mono ?_); rintro e W5 ⟨rfl, b5⟩; have HB5 := Lib.hid (below_step HB4.out b5); have HA5 := Lib.hid (heap_keeps b5 HA4.out); have HC5 := Lib.hid (heap_keeps b5 HC4.out); clear b5)
    | ((with_reducible refine gate_store (t := 25) (p := 5) rfl ?_); refine store_new_event rfl rfl rfl W3.heap.size cs _ 25 rfl rfl (heap_alloc_new W3 _) (by rw [HSZ.out]; kernel_rfl) (by rw [HSZ.out]; rfl) HON.out ?_; intro W4 hW4 hput; have HB4 := Lib.hid (hput.below (HB3.out.alloc HB3.out.size _) HB3.out.size); have HA4 := Lib.hid (hput.other (blk_alloc HA3.out _) (Nat.ne_of_lt (blk_lt HA3.out))); have HC4 := Lib.hid hW4; clear hput hW4)
    | (go_at_call 11; (with_reducible refine (HN.out _).mono ?_); rintro e W3 ⟨rfl, b3⟩; have HB3 := Lib.hid (below_step HB2.out b3); have HA3 := Lib.hid (heap_keeps b3 HA2.out); clear b3)
    | ((with_reducible refine gate_store (t := 25) (p := 3) rfl ?_); refine store_new_event rfl rfl rfl W1.heap.size cs _ 25 rfl rfl (heap_alloc_new W1 _) (by rw [HSZ.out]; kernel_rfl) (by rw [HSZ.out]; rfl) HON.out ?_; intro W2 hW2 hput; have HB2 := Lib.hid (hput.below (HB1.out.alloc HB1.out.size _) HB1.out.size); have HA2 := Lib.hid hW2; clear hput hW2)
    | (go_at_call 10; (with_reducible refine (HP.out _ HT.out).mono ?_); rintro e W1 ⟨rfl, b1⟩; have HB1 := Lib.hid b1; clear b1))
  go_ret
  exact ⟨rfl, HB6.out⟩
theorem parses_calls (s : ByteArray) (w : World) (hT : Tabs w) :
    Calls Tryd.prog 3 #[.string s] w fun e w' => e = .returned (.bool true) ∧ Below w.heap.size w w' := by
  by_cases h : 400 < s.size
  · exact parses_long s w hT h
  · have hs : s.size ≤ 1000000000 := by omega
    exact parses_ok s (patN (N.numN (N.L s)).1) (N.numN (N.L s)).2 w s.size hT rfl (patN_one _) rfl (by omega) (Lib.hid fun W hW => parse_calls s W hW hs) (Lib.hid fun W => number_calls s hs W) (Lib.hid fun W => same_self _ _ _ _ _ _ _ _ _ _ _ _ W)
def figureheadlaw15_NumberParses.f (a0 : ByteArray) : Option Bool := some true
theorem figureheadlaw15_NumberParses.calls (a0 : ByteArray) (r : Bool) (w : World) (hT : Tabs w) (h : figureheadlaw15_NumberParses.f a0 = some r) :
    Calls Tryd.prog 3 #[.string a0] w fun e w' => e = .returned (.bool r) ∧ Below w.heap.size w w' := by
  obtain rfl := Option.some.inj h
  exact parses_calls a0 w hT
/-- The one pure statement of NumberParses. -/
def figureheadlaw15_NumberParses.Pure : Prop := ∀ (a0 : ByteArray), a0.size ≤ 140737488351232 → figureheadlaw15_NumberParses.f a0 = some true
end Go.Proofs.YtgobcejjefgkcaaDoor.Print
