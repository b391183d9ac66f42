/- Statement NumberPrints: its walk. -/
import Derived.Test.YtgobcejjefgkcaaDoorNpo
import Derived.Test.YtgobcejjefgkcaaDoorNtl
import Derived.Deep.RegionHeld3
namespace Go.Proofs.YtgobcejjefgkcaaDoor.Print
open Go.RowKit Go.Proofs.YtgobcejjefgkcaaDoorW.PrintWords Go.Proofs.YtgobcejjefgkcaaDoorW.PrintLast Go.Proofs.YtgobcejjefgkcaaDoorW.PrintMore
set_option linter.unusedVariables false
set_option linter.unusedSimpArgs false

theorem arr_back3 {α : Type} (a : Array α) : a.toList.toArray = a := by simp
theorem yields_row {P : Program} {ops : Array Oper} {S : World → Prop} {op : Oper} {a : Act} (hw : Region.wanted op (yielded ops a.tmps) = true) (ty : TypeId) (x : Operand) (ho : op.op = .load ty x)
    (b : Nat) (hx : a.eval x = .pointer (some ⟨b, 0, none⟩)) (cs : Array Value) (d : TypeDesc) (hS : ∀ w, S w → w.rangeAt b 0 cs.toList)
    (hu : P.underlying ty = some d) (hd : d.isRow = true) (hi : (P.info? ty).map (·.size) = some cs.toList.length) : YieldsIf P ops S op (.agg cs) a := by
  have := yieldsIf_load_mid (ops := ops) hw ty x ho b 0 hx cs.toList d hS hu hd hi
  rwa [arr_back3] at this
/-- What old cells hold behind a call that makes memory. -/
theorem old_cells {W W1 : World} (hb : Below W.heap.size W W1) : (∀ b o, b < W.heap.size → W1.cell? ⟨b, o, none⟩ = W.cell? ⟨b, o, none⟩) := fun b o h => hb.cell (p := ⟨b, o, none⟩) h
variable {cs : Array Value}
set_option maxHeartbeats 8000000 in
set_option maxRecDepth 1000000 in
theorem prints_early (s : ByteArray) (m E : Int) (w : World) (n0 : Nat) (hT : Tabs w) (hsz : cs.size = 20) (hone : cs.all (·.oneCell') = true) (z0 : s.size = n0)
    (hE : decide ((400 : Int) < (n0 : Int)) = true ∨ decide ((400 : Int) < (n0 : Int)) = false ∧ (E != 0) = true ∨ decide ((400 : Int) < (n0 : Int)) = false ∧ (E != 0) = false ∧ decide (100 < m) = true)
    (HN : Hid (∀ W, Calls Tryd.prog 11 #[.string s] W fun e w' => e = .returned (.tuple #[.agg cs, .int .i64 E]) ∧ Below W.heap.size W w')) :
    Calls Tryd.prog 4 #[.string s, .int .i64 m] w fun e w' => e = .returned (.bool true) ∧ Below w.heap.size w w' := by
  have HT := Lib.hid hT
  have HON := Lib.hid hone
  have HSZ : Hid (cs.size = 20) := Lib.hid hsz
  have hTA := arr_back3 cs
  clear hT hone hsz
  go_enter Tryd.func4, Tryd.ntmps4
  rcases hE with k4 | ⟨k4, k5⟩ | ⟨k4, k5, k6⟩
  all_goals
    go_wp2_with (first
      | (go_at_call 11; (with_reducible refine (HN.out _).mono ?_); rintro e W1 ⟨rfl, b1⟩; have HB1 := Lib.hid b1; clear b1)
      | ((with_reducible refine gate_store (t := 25) (p := 5) rfl ?_); refine store_new_event rfl rfl rfl W1.heap.size cs _ 25 rfl rfl (heap_alloc_new W1 _) (by rw [HSZ.out]; kernel_rfl) (by rw [HSZ.out]; rfl) HON.out ?_; intro W2 hW2 hput; have HB2 := Lib.hid (hput.below (HB1.out.alloc HB1.out.size _) HB1.out.size); have HA2 := Lib.hid hW2; clear hput hW2)
      | (go_at_call 9; (with_reducible refine (answers_calls _ (Tabs_below HT.out HB2.out)).mono ?_); rintro e W3 ⟨rfl, b3⟩; have HB3 := Lib.hid (below_step HB2.out b3); clear b3))
    go_ret
    exact ⟨rfl, HB3.out⟩
set_option maxHeartbeats 8000000 in
set_option maxRecDepth 1000000 in
theorem prints_ok (s : ByteArray) (m : Int) (t : ByteArray) (w : World) (n0 : Nat) (hT : Tabs w) (hsz : cs.size = 20) (hone : cs.all (·.oneCell') = true) (z0 : s.size = n0) (k4 : decide ((400 : Int) < (n0 : Int)) = false) (k6 : decide (100 < m) = false)
    (HN : Hid (∀ W, Calls Tryd.prog 11 #[.string s] W fun e w' => e = .returned (.tuple #[.agg cs, .int .i64 0]) ∧ Below W.heap.size W w'))
    (HP : Hid (∀ W, Calls Tryd.prog 13 #[.agg cs, .int .i64 m] W fun e w' => e = .returned (.string t) ∧ Below W.heap.size W w'))
    (HQ : Hid (∀ W, Calls Tryd.prog 14 #[.agg cs, .int .i64 m] W fun e w' => e = .returned (.string t) ∧ Below W.heap.size W w')) :
    Calls Tryd.prog 4 #[.string s, .int .i64 m] w fun e w' => e = .returned (.bool true) ∧ Below w.heap.size w w' := by
  have HT := Lib.hid hT
  have HON := Lib.hid hone
  have HSZ : Hid (cs.size = 20) := Lib.hid hsz
  have hTA := arr_back3 cs
  clear hT hone hsz
  go_enter Tryd.func4, Tryd.ntmps4
  go_wp2_with (first
    | (go_at_call 11; (with_reducible refine (HN.out _).mono ?_); rintro e W1 ⟨rfl, b1⟩; have HB1 := Lib.hid b1; clear b1)
    | ((with_reducible refine gate_store (t := 25) (p := 5) rfl ?_); refine store_new_event rfl rfl rfl W1.heap.size cs _ 25 rfl rfl (heap_alloc_new W1 _) (by rw [HSZ.out]; kernel_rfl) (by rw [HSZ.out]; rfl) HON.out ?_; intro W2 hW2 hput; have HB2 := Lib.hid (hput.below (HB1.out.alloc HB1.out.size _) HB1.out.size); have HA2 := Lib.hid hW2; clear hput hW2))
  have HD2 : Hid (W2.drew.heap[W1.heap.size]? = some (.cells cs 25 (0, 0))) := Lib.hid HA2.out
  refine wp_region_held_drew (S := fun w' => w'.rangeAt W1.heap.size 0 cs.toList) (by kernel_rfl) (row_range HD2.out) (fun hHeld => ?_)
  refine wpAnyH_ready (rs := [0]) (by kernel_rfl) (by simp) ?_
  refine AllReadyH.cons (o := _) rfl (fun K hK => ?_) AllReadyH.nil
  go_simp
  refine (answers_calls _ (Tabs_below HT.out HB2.out.drew)).mono ?_
  rintro e W3 ⟨rfl, b3⟩
  have HD3 := Lib.hid (heap_keeps b3 HD2.out)
  have HB3 := Lib.hid (below_step HB2.out.drew b3)
  clear b3
  dsimp only
  refine hK.out _ _ (row_range HD3.out) (fun hHeld3 => ?_)
  clear hK
  try simp only [Act.put, List.setIfInBounds_toArray, List.set_cons_zero, List.set_cons_succ]
  refine wpAnyH_take (i := 1) (oi := _) (v := .bool true) rfl (by kernel_rfl) (by kernel_rfl) (by kernel_rfl) (fun _ _ _ h => h) (Or.inl ⟨by rfl, fun w hw => by rfl⟩) hHeld3 ?_
  try simp only [Act.put, List.setIfInBounds_toArray, List.set_cons_zero, List.set_cons_succ]
  refine wpAnyH_take (i := 2) (oi := _) (v := .agg cs) rfl (by kernel_rfl) (by kernel_rfl) (by kernel_rfl) (fun _ _ _ h => h) (yields_row (by rfl) _ _ rfl _ rfl cs _ (fun _ h => h) Tryd.underlying25 rfl (by rw [Array.length_toList, HSZ.out]; kernel_rfl)) hHeld3 ?_
  try simp only [Act.put, List.setIfInBounds_toArray, List.set_cons_zero, List.set_cons_succ]
  refine wpAnyH_take (i := 3) (oi := _) (v := .int .i64 m) rfl (by kernel_rfl) (by kernel_rfl) (by kernel_rfl) (fun _ _ _ h => h) (Or.inl ⟨by rfl, fun w hw => by rfl⟩) hHeld3 ?_
  try simp only [Act.put, List.setIfInBounds_toArray, List.set_cons_zero, List.set_cons_succ]
  refine wpAnyH_take (i := 5) (oi := _) (v := .agg cs) rfl (by kernel_rfl) (by kernel_rfl) (by kernel_rfl) (fun _ _ _ h => h) (yields_row (by rfl) _ _ rfl _ rfl cs _ (fun _ h => h) Tryd.underlying25 rfl (by rw [Array.length_toList, HSZ.out]; kernel_rfl)) hHeld3 ?_
  try simp only [Act.put, List.setIfInBounds_toArray, List.set_cons_zero, List.set_cons_succ]
  refine wpAnyH_take (i := 6) (oi := _) (v := .int .i64 m) rfl (by kernel_rfl) (by kernel_rfl) (by kernel_rfl) (fun _ _ _ h => h) (Or.inl ⟨by rfl, fun w hw => by rfl⟩) hHeld3 ?_
  try simp only [Act.put, List.setIfInBounds_toArray, List.set_cons_zero, List.set_cons_succ]
  refine wpAnyH_ready (rs := [4]) (by kernel_rfl) (by simp) ?_
  refine AllReadyH.cons (o := _) rfl (fun K4 hK => ?_) AllReadyH.nil
  rw [if_pos (by rfl)]
  go_simp
  refine (HP.out _).mono ?_
  rintro e W4 ⟨rfl, b4⟩
  have HD4 := Lib.hid (heap_keeps b4 HD3.out)
  have HB4 := Lib.hid (below_step HB3.out b4)
  clear b4
  dsimp only
  refine hK.out _ _ (row_range HD4.out) (fun hHeld4 => ?_)
  clear hK
  try simp only [Act.put, List.setIfInBounds_toArray, List.set_cons_zero, List.set_cons_succ]
  refine wpAnyH_ready (rs := [7]) (by kernel_rfl) (by simp) ?_
  refine AllReadyH.cons (o := _) rfl (fun K5 hK => ?_) AllReadyH.nil
  rw [if_pos (by rfl)]
  go_simp
  refine (HQ.out _).mono ?_
  rintro e W5 ⟨rfl, b5⟩
  have HD5 := Lib.hid (heap_keeps b5 HD4.out)
  have HB5 := Lib.hid (below_step HB4.out b5)
  clear b5
  dsimp only
  refine hK.out _ _ (row_range HD5.out) (fun hHeld5 => ?_)
  clear hK
  try simp only [Act.put, List.setIfInBounds_toArray, List.set_cons_zero, List.set_cons_succ]
  refine wpAnyH_take (i := 8) (oi := _) (v := .bool true) rfl (by kernel_rfl) (by kernel_rfl) (by kernel_rfl) (fun _ _ _ h => h) (Or.inl ⟨by rfl, fun w hw => by go_simp⟩) hHeld5 ?_
  try simp only [Act.put, List.getElem_toArray, List.getElem_cons_succ, List.getElem_cons_zero, List.setIfInBounds_toArray, List.set_cons_zero, List.set_cons_succ]
  refine wpAnyH_take (i := 9) (oi := ?o9) (v := .bool true) ?h9 (by kernel_rfl) (by kernel_rfl) (by kernel_rfl) ?q9 ?y9 hHeld5 ?r9
  case h9 => exact rfl
  case q9 => exact fun _ _ _ h => h
  case y9 => exact Or.inl ⟨by rfl, fun w hw => by go_simp⟩
  try simp only [Act.put, List.getElem_toArray, List.getElem_cons_succ, List.getElem_cons_zero, List.setIfInBounds_toArray, List.set_cons_zero, List.set_cons_succ]
  refine wpAnyH_take (i := 10) (oi := ?o10) (v := .bool true) ?h10 (by kernel_rfl) (by kernel_rfl) (by kernel_rfl) ?q10 ?y10 hHeld5 ?r10
  case h10 => exact rfl
  case q10 => exact fun _ _ _ h => h
  case y10 => exact Or.inl ⟨by rfl, fun w hw => by go_simp⟩
  try simp only [Act.put, List.getElem_toArray, List.getElem_cons_succ, List.getElem_cons_zero, List.setIfInBounds_toArray, List.set_cons_zero, List.set_cons_succ]
  refine wpAnyH_done (by kernel_rfl) ?_ _
  go_wp2
  go_ret
  exact ⟨rfl, HB5.out⟩
theorem numN_good3 {s : N.Bs} (h : (N.numN s).2 = 0) : N.Good (N.numN s).1 := by
  unfold N.numN at h ⊢
  split at h
  · rename_i h0; rw [if_pos h0]; exact N.say_good h0
  · rename_i h0; exact absurd h h0
theorem prints_calls (s : ByteArray) (m : Int) (hs : s.size ≤ 1000000000) (w : World) (hT : Tabs w) :
    Calls Tryd.prog 4 #[.string s, .int .i64 m] w fun e w' => e = .returned (.bool true) ∧ Below w.heap.size w w' := by
  have HN : Hid (∀ W, Calls Tryd.prog 11 #[.string s] W fun e w' => e = .returned (.tuple #[.agg (patN (N.numN (N.L s)).1), .int .i64 (N.numN (N.L s)).2]) ∧ Below W.heap.size W w') := Lib.hid fun W => number_calls s hs W
  by_cases h1 : 400 < s.size
  · exact prints_early s m _ w s.size hT rfl (patN_one _) rfl (.inl (decide_eq_true (by omega))) HN
  have k4 : decide ((400 : Int) < (s.size : Int)) = false := decide_eq_false (by omega)
  by_cases h2 : (N.numN (N.L s)).2 = 0
  · by_cases h3 : 100 < m
    · exact prints_early s m _ w s.size hT rfl (patN_one _) rfl (.inr (.inr ⟨k4, by rw [h2]; rfl, decide_eq_true h3⟩)) HN
    · have g := numN_good3 h2
      rw [h2] at HN
      exact prints_ok s m _ w s.size hT rfl (patN_one _) rfl k4 (decide_eq_false h3) HN (Lib.hid fun W => print_calls _ g m (by omega) W) (Lib.hid fun W => refprint_calls _ g m (by omega) W)
  · exact prints_early s m _ w s.size hT rfl (patN_one _) rfl (.inr (.inl ⟨k4, bne_iff_ne.2 h2⟩)) HN
def figureheadlaw15_NumberPrints.f (a0 : ByteArray) (_a1 : Int) : Option Bool := if a0.size ≤ 1000000000 then some true else none
theorem figureheadlaw15_NumberPrints.calls (a0 : ByteArray) (a1 : Int) (r : Bool) (w : World) (hT : Tabs w) (h : figureheadlaw15_NumberPrints.f a0 a1 = some r) :
    Calls Tryd.prog 4 #[.string a0, .int .i64 a1] w fun e w' => e = .returned (.bool r) ∧ Below w.heap.size w w' := by
  unfold figureheadlaw15_NumberPrints.f at h
  split at h
  · rename_i hb
    obtain rfl := Option.some.inj h
    exact prints_calls a0 a1 hb w hT
  · cases h
/-- The one pure statement of NumberPrints. -/
def figureheadlaw15_NumberPrints.Pure : Prop := ∀ (a0 : ByteArray) (a1 : Int), a0.size ≤ 140737488351232 → (Lit.int .i64 a1).wf = true → (a0.size + 1) + 1 ≤ 1048576 → figureheadlaw15_NumberPrints.f a0 a1 = some true
end Go.Proofs.YtgobcejjefgkcaaDoor.Print
