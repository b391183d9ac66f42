/- Statement NumberMore: its walk. -/
import Derived.Test.YtgobcejjefgkcaaDoorNwb
import Derived.Test.YtgobcejjefgkcaaDoorNtl
namespace Go.Proofs.YtgobcejjefgkcaaDoor.Print
open Go.RowKit Go.Proofs.YtgobcejjefgkcaaDoorW.PrintWords Go.Proofs.YtgobcejjefgkcaaDoorW.PrintLast Go.Proofs.YtgobcejjefgkcaaDoorW.PrintMore
set_option linter.unusedVariables false
set_option linter.unusedSimpArgs false

theorem arr_back4 {α : Type} (a : Array α) : a.toList.toArray = a := by simp
variable {cs : Array Value}
set_option maxHeartbeats 8000000 in
set_option maxRecDepth 1000000 in
theorem more_early (s : ByteArray) (m E : Int) (w : World) (n0 : Nat) (hT : Tabs w) (hsz : cs.size = 20) (hone : cs.all (·.oneCell') = true) (z0 : s.size = n0)
    (hE : decide ((400 : Int) < (n0 : Int)) = true ∨ decide ((400 : Int) < (n0 : Int)) = false ∧ (E != 0) = true)
    (HN : Hid (∀ W, Calls Tryd.prog 11 #[.string s] W fun e w' => e = .returned (.tuple #[.agg cs, .int .i64 E]) ∧ Below W.heap.size W w')) :
    Calls Tryd.prog 7 #[.string s, .int .u8 m] w fun e w' => e = .returned (.bool true) ∧ Below w.heap.size w w' := by
  have HT := Lib.hid hT
  have HON := Lib.hid hone
  have HSZ : Hid (cs.size = 20) := Lib.hid hsz
  clear hT hone hsz
  go_enter Tryd.func7, Tryd.ntmps7
  rcases hE with k4 | ⟨k4, k5⟩
  all_goals
    go_wp2_with (first
      | (go_at_call 11; (with_reducible refine (HN.out _).mono ?_); rintro e W1 ⟨rfl, b1⟩; have HB1 := Lib.hid b1; clear b1)
      | ((with_reducible refine gate_store (t := 25) (p := 5) rfl ?_); refine store_new_event rfl rfl rfl W1.heap.size cs _ 25 rfl rfl (heap_alloc_new W1 _) (by rw [HSZ.out]; kernel_rfl) (by rw [HSZ.out]; rfl) HON.out ?_; intro W2 hW2 hput; have HB2 := Lib.hid (hput.below (HB1.out.alloc HB1.out.size _) HB1.out.size); have HA2 := Lib.hid hW2; clear hput hW2)
      | (go_at_call 9; (with_reducible refine (answers_calls _ (Tabs_below HT.out HB2.out)).mono ?_); rintro e W3 ⟨rfl, b3⟩; have HB3 := Lib.hid (below_step HB2.out b3); clear b3))
    go_ret
    exact ⟨rfl, HB3.out⟩
set_option maxHeartbeats 8000000 in
set_option maxRecDepth 1000000 in
theorem more_ok (s t u : ByteArray) (m n0 n1 : Nat) (sci : Bool) (w : World) (hT : Tabs w) (hsz : cs.size = 20) (hone : cs.all (·.oneCell') = true) (h14 : cs[14]? = some (.bool sci)) (z0 : s.size = n0) (z1 : t.size = n1) (hn1 : n1 ≤ 1000) (hm : m < 256) (k4 : decide ((400 : Int) < (n0 : Int)) = false)
    (hu : u = if sci then mkB [] else mkB (List.replicate m 35))
    (HN : Hid (∀ W, Calls Tryd.prog 11 #[.string s] W fun e w' => e = .returned (.tuple #[.agg cs, .int .i64 0]) ∧ Below W.heap.size W w'))
    (HP0 : Hid (∀ W, Calls Tryd.prog 13 #[.agg cs, .int .i64 0] W fun e w' => e = .returned (.string t) ∧ Below W.heap.size W w'))
    (HPM : Hid (∀ W, Calls Tryd.prog 13 #[.agg cs, .int .i64 (m : Int)] W fun e w' => e = .returned (.string (u ++ t)) ∧ Below W.heap.size W w'))
    (HPN : Hid (∀ W, Calls Tryd.prog 13 #[.agg cs, .int .i64 (-1)] W fun e w' => e = .returned (.string t) ∧ Below W.heap.size W w')) :
    Calls Tryd.prog 7 #[.string s, .int .u8 (m : Int)] w fun e w' => e = .returned (.bool true) ∧ Below w.heap.size w w' := by
  have HT := Lib.hid hT
  have HON := Lib.hid hone
  have HSZ : Hid (cs.size = 20) := Lib.hid hsz
  have H14 := Lib.hid h14
  have HU := Lib.hid hu
  have hTA := arr_back4 cs
  have hm4 : IntKind.i64.wrap (m : Int) = (m : Int) := IntWalk.i64_in _ (by omega)
  clear hT hone hsz h14 hu
  go_enter Tryd.func7, Tryd.ntmps7
  go_wp2_with (first
    | (go_at_call 11; (with_reducible refine (HN.out _).mono ?_); rintro e W1 ⟨rfl, b1⟩; have HB1 := Lib.hid b1; clear b1)
    | ((with_reducible refine gate_store (t := 25) (p := 5) rfl ?_); refine store_new_event rfl rfl rfl W1.heap.size cs _ 25 rfl rfl (heap_alloc_new W1 _) (by rw [HSZ.out]; kernel_rfl) (by rw [HSZ.out]; rfl) HON.out ?_; intro W2 hW2 hput; have HB2 := Lib.hid (hput.below (HB1.out.alloc HB1.out.size _) HB1.out.size); have HA2 := Lib.hid hW2; clear hput hW2)
    | ((with_reducible refine gate_dst (N := 23) rfl ?_); (try (refine gate_guard (by rfl) ?_; dsimp only)); refine wpList_load_mid rfl 25 (.tmp 5) rfl W1.heap.size 0 rfl cs.toList _ (row_range HA2.out) Tryd.underlying25 rfl (by rw [Array.length_toList, HSZ.out]; kernel_rfl) ?_)
    | (go_at_call 13; (with_reducible refine (HP0.out _).mono ?_); rintro e W3 ⟨rfl, b3⟩; have HB3 := Lib.hid (below_step HB2.out b3); have HA3 := Lib.hid (heap_keeps b3 HA2.out); have d14 : W3.cell? ⟨W1.heap.size, 14, none⟩ = some (.bool sci) := (blk_cell HA3.out 14).trans H14.out; clear b3))
  cases sci with
  | true =>
    have hu : u = ⟨#[]⟩ := by rw [HU.out]; rfl
    subst hu
    have hus : (⟨#[]⟩ : ByteArray).size = 0 := rfl
    clear HU
    go_loop [8, 9] (fun v8 v9 => v9 = .int .i64 0 ∧ v8 = .string ⟨#[]⟩) (fun _ _ => 0)
    case atStart => exact ⟨rfl, rfl⟩
    case round =>
      obtain ⟨rfl, rfl⟩ := hrel
      by_cases hm0 : 0 < m
      · have hd : decide ((0 : Int) < (m : Int)) = true := decide_eq_true (by omega)
        go_wp2_with (first
          | (go_at_call 13; (with_reducible refine (HPN.out _).mono ?_); rintro e W6 ⟨rfl, b6⟩; have HB6 := Lib.hid (below_step HB5.out b6); have HA6 := Lib.hid (heap_keeps b6 HA5.out); clear b6)
          | ((with_reducible refine gate_dst (N := 50) rfl ?_); (try (refine gate_guard (by rfl) ?_; dsimp only)); refine wpList_load_mid rfl 25 (.tmp 5) rfl W1.heap.size 0 rfl cs.toList _ (row_range HA5.out) Tryd.underlying25 rfl (by rw [Array.length_toList, HSZ.out]; kernel_rfl) ?_)
          | (go_at_call 13; (with_reducible refine (HPM.out _).mono ?_); rintro e W5 ⟨rfl, b5⟩; have HB5 := Lib.hid (below_step HB4.out b5); have HA5 := Lib.hid (heap_keeps b5 HA4.out); clear b5)
          | ((with_reducible refine gate_dst (N := 40) rfl ?_); (try (refine gate_guard (by rfl) ?_; dsimp only)); refine wpList_load_mid rfl 25 (.tmp 5) rfl W1.heap.size 0 rfl cs.toList _ (row_range HA4.out) Tryd.underlying25 rfl (by rw [Array.length_toList, HSZ.out]; kernel_rfl) ?_)
          | (go_at_call 9; (with_reducible refine (answers_calls _ (Tabs_below HT.out HB3.out)).mono ?_); rintro e W4 ⟨rfl, b4⟩; have HB4 := Lib.hid (below_step HB3.out b4); have HA4 := Lib.hid (heap_keeps b4 HA3.out); clear b4))
        go_ret
        exact ⟨rfl, HB6.out⟩
      · obtain rfl : m = 0 := by omega
        have HPZ : Hid (∀ W, Calls Tryd.prog 13 #[.agg cs, .int .i64 0] W fun e w' => e = .returned (.string (⟨#[]⟩ ++ t)) ∧ Below W.heap.size W w') := Lib.hid fun W => HPM.out W
        go_wp2_with (first
          | (go_at_call 13; (with_reducible refine (HPN.out _).mono ?_); rintro e W6 ⟨rfl, b6⟩; have HB6 := Lib.hid (below_step HB5.out b6); have HA6 := Lib.hid (heap_keeps b6 HA5.out); clear b6)
          | ((with_reducible refine gate_dst (N := 50) rfl ?_); (try (refine gate_guard (by rfl) ?_; dsimp only)); refine wpList_load_mid rfl 25 (.tmp 5) rfl W1.heap.size 0 rfl cs.toList _ (row_range HA5.out) Tryd.underlying25 rfl (by rw [Array.length_toList, HSZ.out]; kernel_rfl) ?_)
          | (go_at_call 13; (with_reducible refine (HPZ.out _).mono ?_); rintro e W5 ⟨rfl, b5⟩; have HB5 := Lib.hid (below_step HB4.out b5); have HA5 := Lib.hid (heap_keeps b5 HA4.out); clear b5)
          | ((with_reducible refine gate_dst (N := 40) rfl ?_); (try (refine gate_guard (by rfl) ?_; dsimp only)); refine wpList_load_mid rfl 25 (.tmp 5) rfl W1.heap.size 0 rfl cs.toList _ (row_range HA4.out) Tryd.underlying25 rfl (by rw [Array.length_toList, HSZ.out]; kernel_rfl) ?_)
          | (go_at_call 9; (with_reducible refine (answers_calls _ (Tabs_below HT.out HB3.out)).mono ?_); rintro e W4 ⟨rfl, b4⟩; have HB4 := Lib.hid (below_step HB3.out b4); have HA4 := Lib.hid (heap_keeps b4 HA3.out); clear b4))
        go_ret
        exact ⟨rfl, HB6.out⟩
  | false =>
    have hu : u = mkB (List.replicate m 35) := by rw [HU.out]; rfl
    have HU2 := Lib.hid hu
    have h35 : (⟨#[35]⟩ : ByteArray).size = 1 := rfl
    clear HU hu
    go_loop [8, 9] (fun v8 v9 => ∃ (i : Nat) (sb : ByteArray), v9 = .int .i64 (i : Int) ∧ v8 = .string sb ∧ i ≤ m ∧ sb.size ≤ i ∧ Hid (sb = mkB (List.replicate i 35))) (fun _ v9 => m - (RowKit.intOf v9).toNat)
    case atStart => exact ⟨0, ⟨#[]⟩, rfl, rfl, by omega, by decide, Lib.hid rfl⟩
    case round =>
      obtain ⟨i, sb, rfl, rfl, hi, hs, HSB⟩ := hrel
      by_cases him : i < m
      · go_wp2
        go_round
        case rel => exact ⟨i + 1, sb ++ ⟨#[35]⟩, by go_num, rfl, by omega, by rw [ByteArray.size_append, h35]; omega, Lib.hid (by rw [HSB.out, show (⟨#[35]⟩ : ByteArray) = mkB [35] from rfl, mkB_app, ← List.replicate_succ'])⟩
        case measure => simp [RowKit.intOf] <;> omega
      · obtain rfl : i = m := by omega
        have hsu : sb = u := by rw [HSB.out, HU2.out]
        subst hsu
        go_wp2_with (first
          | (go_at_call 13; (with_reducible refine (HPN.out _).mono ?_); rintro e W6 ⟨rfl, b6⟩; have HB6 := Lib.hid (below_step HB5.out b6); have HA6 := Lib.hid (heap_keeps b6 HA5.out); clear b6)
          | ((with_reducible refine gate_dst (N := 50) rfl ?_); (try (refine gate_guard (by rfl) ?_; dsimp only)); refine wpList_load_mid rfl 25 (.tmp 5) rfl W1.heap.size 0 rfl cs.toList _ (row_range HA5.out) Tryd.underlying25 rfl (by rw [Array.length_toList, HSZ.out]; kernel_rfl) ?_)
          | (go_at_call 13; (with_reducible refine (HPM.out _).mono ?_); rintro e W5 ⟨rfl, b5⟩; have HB5 := Lib.hid (below_step HB4.out b5); have HA5 := Lib.hid (heap_keeps b5 HA4.out); clear b5)
          | ((with_reducible refine gate_dst (N := 40) rfl ?_); (try (refine gate_guard (by rfl) ?_; dsimp only)); refine wpList_load_mid rfl 25 (.tmp 5) rfl W1.heap.size 0 rfl cs.toList _ (row_range HA4.out) Tryd.underlying25 rfl (by rw [Array.length_toList, HSZ.out]; kernel_rfl) ?_)
          | (go_at_call 9; (with_reducible refine (answers_calls _ (Tabs_below HT.out HB3.out)).mono ?_); rintro e W4 ⟨rfl, b4⟩; have HB4 := Lib.hid (below_step HB3.out b4); have HA4 := Lib.hid (heap_keeps b4 HA3.out); clear b4))
        go_ret
        exact ⟨rfl, HB6.out⟩
theorem numN_good4 {s : N.Bs} (h : (N.numN s).2 = 0) : N.Good (N.numN s).1 ∧ (N.printN (N.numN s).1 0).length ≤ s.length := by
  unfold N.numN at h ⊢
  split at h
  · rename_i h0; rw [if_pos h0]; exact ⟨N.say_good h0, N.print_short h0⟩
  · rename_i h0; exact absurd h h0
theorem more_calls (s : ByteArray) (m : Nat) (hm : m < 256) (hs : s.size ≤ 1000000000) (w : World) (hT : Tabs w) :
    Calls Tryd.prog 7 #[.string s, .int .u8 (m : Int)] w fun e w' => e = .returned (.bool true) ∧ Below w.heap.size w w' := by
  have HN : Hid (∀ W, Calls Tryd.prog 11 #[.string s] W fun e w' => e = .returned (.tuple #[.agg (patN (N.numN (N.L s)).1), .int .i64 (N.numN (N.L s)).2]) ∧ Below W.heap.size W w') := Lib.hid fun W => number_calls s hs W
  by_cases h1 : 400 < s.size
  · exact more_early s m _ w s.size hT rfl (patN_one _) rfl (.inl (decide_eq_true (by omega))) HN
  have k4 : decide ((400 : Int) < (s.size : Int)) = false := decide_eq_false (by omega)
  by_cases h2 : (N.numN (N.L s)).2 = 0
  · obtain ⟨g, hl⟩ := numN_good4 h2
    rw [h2] at HN
    rw [N.L_len] at hl
    have hp : mkB (N.printN (N.numN (N.L s)).1 (m : Int)) = (if (N.numN (N.L s)).1.sci then mkB [] else mkB (List.replicate m 35)) ++ mkB (N.printN (N.numN (N.L s)).1 0) := by
      rw [N.print_more g (m : Int), ← mkB_app]
      unfold N.rp
      rw [Int.toNat_natCast]
      cases (N.numN (N.L s)).1.sci <;> rfl
    have hneg : N.printN (N.numN (N.L s)).1 (-1) = N.printN (N.numN (N.L s)).1 0 := N.print_neg _ _ (by omega)
    refine more_ok s (mkB (N.printN (N.numN (N.L s)).1 0)) _ m s.size _ (N.numN (N.L s)).1.sci w hT rfl (patN_one _) rfl rfl rfl ?_ hm k4 rfl HN (Lib.hid fun W => print_calls _ g 0 (by omega) W) (Lib.hid fun W => ?_) (Lib.hid fun W => ?_)
    · rw [mkB_size]; omega
    · rw [← hp]; exact print_calls _ g m (by omega) W
    · rw [← hneg]; exact print_calls _ g (-1) (by omega) W
  · exact more_early s m _ w s.size hT rfl (patN_one _) rfl (.inr ⟨k4, bne_iff_ne.2 h2⟩) HN
def figureheadlaw15_NumberMore.f (a0 : ByteArray) (a1 : Int) : Option Bool := if a0.size ≤ 1000000000 ∧ 0 ≤ a1 ∧ a1 < 256 then some true else none
theorem figureheadlaw15_NumberMore.calls (a0 : ByteArray) (a1 : Int) (r : Bool) (w : World) (hT : Tabs w) (h : figureheadlaw15_NumberMore.f a0 a1 = some r) :
    Calls Tryd.prog 7 #[.string a0, .int .u8 a1] w fun e w' => e = .returned (.bool r) ∧ Below w.heap.size w w' := by
  unfold figureheadlaw15_NumberMore.f at h
  split at h
  · rename_i hb
    obtain ⟨hs, h0, h1⟩ := hb
    obtain rfl := Option.some.inj h
    obtain ⟨m, rfl⟩ : ∃ m : Nat, a1 = (m : Int) := ⟨a1.toNat, by omega⟩
    exact more_calls a0 m (by omega) hs w hT
  · cases h
/-- The one pure statement of NumberMore. -/
def figureheadlaw15_NumberMore.Pure : Prop := ∀ (a0 : ByteArray) (a1 : Int), a0.size ≤ 140737488351232 → (Lit.int .u8 a1).wf = true → (a0.size + 1) + 1 ≤ 1048576 → figureheadlaw15_NumberMore.f a0 a1 = some true
end Go.Proofs.YtgobcejjefgkcaaDoor.Print
