/- Statement NumberFields: its walk. -/
import Derived.Test.YtgobcejjefgkcaaDoorNs
import Derived.Test.YtgobcejjefgkcaaDoorNtl
import Derived.Test.YtgobcejjefgkcaaDoorPrint5
namespace Go.Proofs.YtgobcejjefgkcaaDoor.Print
open Go.RowKit Go.Proofs.YtgobcejjefgkcaaDoorW.PrintWords Go.Proofs.YtgobcejjefgkcaaDoorW.PrintLast Go.Proofs.YtgobcejjefgkcaaDoorW.PrintMore
set_option linter.unusedVariables false
set_option linter.unusedSimpArgs false

/-- What a pattern's cells say. -/
structure PatHas (cs : Array Value) (mi ma mf xf ms xs pr se : Int) (ic : ByteArray) (sci : Bool) (me : Int) (pl : Bool) : Prop where
  size : cs.size = 20
  c5 : cs[5]? = some (.int .i64 mi)
  c6 : cs[6]? = some (.int .i64 ma)
  c7 : cs[7]? = some (.int .i64 mf)
  c8 : cs[8]? = some (.int .i64 xf)
  c9 : cs[9]? = some (.int .i64 ms)
  c10 : cs[10]? = some (.int .i64 xs)
  c11 : cs[11]? = some (.int .i64 pr)
  c12 : cs[12]? = some (.int .i64 se)
  c13 : cs[13]? = some (.string ic)
  c14 : cs[14]? = some (.bool sci)
  c15 : cs[15]? = some (.int .i64 me)
  c16 : cs[16]? = some (.bool pl)
theorem PatHas.cells {cs : Array Value} {mi ma mf xf ms xs pr se : Int} {ic : ByteArray} {sci : Bool} {me : Int} {pl : Bool} (k : PatHas cs mi ma mf xf ms xs pr se ic sci me pl) {W : World} {b : Nat} (h : W.heap[b]? = some (.cells cs 25 (0, 0))) :
    W.cell? ⟨b, 5, none⟩ = some (.int .i64 mi) ∧ W.cell? ⟨b, 6, none⟩ = some (.int .i64 ma) ∧ W.cell? ⟨b, 7, none⟩ = some (.int .i64 mf) ∧ W.cell? ⟨b, 8, none⟩ = some (.int .i64 xf) ∧ W.cell? ⟨b, 9, none⟩ = some (.int .i64 ms) ∧ W.cell? ⟨b, 10, none⟩ = some (.int .i64 xs) ∧ W.cell? ⟨b, 11, none⟩ = some (.int .i64 pr) ∧ W.cell? ⟨b, 12, none⟩ = some (.int .i64 se) ∧ W.cell? ⟨b, 13, none⟩ = some (.string ic) ∧ W.cell? ⟨b, 14, none⟩ = some (.bool sci) ∧ W.cell? ⟨b, 15, none⟩ = some (.int .i64 me) ∧ W.cell? ⟨b, 16, none⟩ = some (.bool pl) :=
  ⟨(blk_cell h 5).trans k.c5, (blk_cell h 6).trans k.c6, (blk_cell h 7).trans k.c7, (blk_cell h 8).trans k.c8, (blk_cell h 9).trans k.c9, (blk_cell h 10).trans k.c10, (blk_cell h 11).trans k.c11, (blk_cell h 12).trans k.c12, (blk_cell h 13).trans k.c13, (blk_cell h 14).trans k.c14, (blk_cell h 15).trans k.c15, (blk_cell h 16).trans k.c16⟩
set_option maxHeartbeats 8000000 in
set_option maxRecDepth 1000000 in
theorem fields_calls (cs : Array Value) (mi ma mf xf ms xs pr se : Int) (ic : ByteArray) (sci : Bool) (me : Int) (pl : Bool) (k : PatHas cs mi ma mf xf ms xs pr se ic sci me pl) (w : World) :
    Calls Tryd.prog 15 #[.agg cs] w fun e w' => e = .returned (.agg (patI mi ma mf xf ms xs pr se ic sci me pl)) ∧ Below w.heap.size w w' := by
  have HG0 := heap_alloc_new w (.cells cs 25 (0, 0))
  have HB0 := Lib.hid ((Below.refl w.heap.size w).alloc (Nat.le_refl _) (.cells cs 25 (0, 0)))
  obtain ⟨V, hV⟩ : ∃ V, V = w.alloc (.cells cs 25 (0, 0)) := ⟨_, rfl⟩
  rw [← hV] at HG0 HB0
  have HVV := Lib.hid hV
  have hall := fun o => k.cells (blk_alloc HG0 o)
  have c5 := fun o => (hall o).1
  have c6 := fun o => (hall o).2.1
  have c7 := fun o => (hall o).2.2.1
  have c8 := fun o => (hall o).2.2.2.1
  have c9 := fun o => (hall o).2.2.2.2.1
  have c10 := fun o => (hall o).2.2.2.2.2.1
  have c11 := fun o => (hall o).2.2.2.2.2.2.1
  have c12 := fun o => (hall o).2.2.2.2.2.2.2.1
  have c13 := fun o => (hall o).2.2.2.2.2.2.2.2.1
  have c14 := fun o => (hall o).2.2.2.2.2.2.2.2.2.1
  have c15 := fun o => (hall o).2.2.2.2.2.2.2.2.2.2.1
  have c16 := fun o => (hall o).2.2.2.2.2.2.2.2.2.2.2
  clear hall
  have HH := Lib.hid HG0
  clear HG0 k
  have hvw := hV.symm
  clear hV
  go_enter Tryd.func15, Tryd.ntmps15
  go_wp2_with (first
    | ((with_reducible refine gate_store (t := 25) (p := 2) rfl ?_); refine store_new_event rfl rfl rfl V.heap.size (patI mi ma mf xf ms xs pr se ic sci me pl) _ 25 rfl rfl (heap_alloc_new V _) (by kernel_rfl) rfl (patI_one _ _ _ _ _ _ _ _ _ _ _ _) ?_; intro W2 hW2 hput; have HB2 := Lib.hid (hput.below (HB0.out.alloc HB0.out.size _) HB0.out.size); have HW2 := Lib.hid hW2; clear hput hW2))
  refine bodyPost_ret (results_cell_row rfl _ _ V.heap.size 25 (patI mi ma mf xf ms xs pr se ic sci me pl) (0, 0) _ rfl HW2.out Tryd.underlying25 rfl (by kernel_rfl)) rfl ?_
  exact ⟨rfl, HB2.out⟩
theorem pushed_eq {α : Type} (a : Array α) : a.toList.toArray = a := by simp
set_option maxHeartbeats 8000000 in
set_option maxRecDepth 1000000 in
theorem numberFields_walk (cs : Array Value) (mi ma mf xf ms xs pr se : Int) (ic : ByteArray) (sci : Bool) (me : Int) (pl : Bool) (k : PatHas cs mi ma mf xf ms xs pr se ic sci me pl) (w : World) (hT : Tabs w)
    (hs : ∀ W, Below w.heap.size w W → Calls Tryd.prog 16 #[.agg cs, .agg (patI mi ma mf xf ms xs pr se ic sci me pl)] W fun e w' => e = .returned (.bool true) ∧ Below W.heap.size W w') :
    Calls Tryd.prog 8 #[.agg cs] w fun e w' => e = .returned (.bool true) ∧ Below w.heap.size w w' := by
  have HT := Lib.hid hT
  have HS := Lib.hid hs
  have HF := Lib.hid (fun W => fields_calls cs mi ma mf xf ms xs pr se ic sci me pl k W)
  have HSZ : Hid (cs.size = 20) := Lib.hid k.size
  have HG0 := heap_alloc_new w (.cells cs 25 (0, 0))
  have HB0 := Lib.hid ((Below.refl w.heap.size w).alloc (Nat.le_refl _) (.cells cs 25 (0, 0)))
  obtain ⟨V, hV⟩ : ∃ V, V = w.alloc (.cells cs 25 (0, 0)) := ⟨_, rfl⟩
  rw [← hV] at HG0 HB0
  have HH := Lib.hid HG0
  have hvw := hV.symm
  have hTA := pushed_eq cs
  clear hT hs k HG0 hV
  go_enter Tryd.func8, Tryd.ntmps8
  go_wp2_with (first
    | ((with_reducible refine gate_dst (N := 4) rfl ?_); refine wpList_load_mid rfl 25 (.tmp 1) rfl w.heap.size 0 rfl cs.toList _ (row_range HH.out) Tryd.underlying25 rfl (by rw [Array.length_toList, HSZ.out]; kernel_rfl) ?_)
    | (go_at_call 15; (with_reducible refine (HF.out _).mono ?_); rintro e W1 ⟨rfl, b1⟩; have HB1 := Lib.hid (below_step HB0.out b1); have HH1 := Lib.hid (heap_keeps b1 HH.out); clear b1)
    | ((with_reducible refine gate_store (t := 25) (p := 3) rfl ?_); refine store_new_event rfl rfl rfl W1.heap.size (patI mi ma mf xf ms xs pr se ic sci me pl) _ 25 rfl rfl (heap_alloc_new W1 _) (by kernel_rfl) rfl (patI_one _ _ _ _ _ _ _ _ _ _ _ _) ?_; intro W2 hW2 hput; have HB2 := Lib.hid (hput.below (HB1.out.alloc HB1.out.size _) HB1.out.size); have HH2 := Lib.hid (hput.other (blk_alloc HH1.out _) (Nat.ne_of_lt (blk_lt HH1.out))); have HW2 := Lib.hid hW2; clear hput hW2)
    | (go_at_call 9; (with_reducible refine (answers_calls _ (Tabs_below HT.out HB2.out)).mono ?_); rintro e W3 ⟨rfl, b3⟩; have HB3 := Lib.hid (below_step HB2.out b3); have HW3 := Lib.hid (heap_keeps b3 HW2.out); have HH3 := Lib.hid (heap_keeps b3 HH2.out); clear b3)
    | ((with_reducible refine gate_dst (N := 8) rfl ?_); refine gate_guard (by rfl) ?_; dsimp only; refine wpList_load_mid rfl 25 (.tmp 1) rfl w.heap.size 0 rfl cs.toList _ (row_range HH3.out) Tryd.underlying25 rfl (by rw [Array.length_toList, HSZ.out]; kernel_rfl) ?_)
    | ((with_reducible refine gate_dst (N := 9) rfl ?_); refine gate_guard (by rfl) ?_; dsimp only; refine wpList_load_mid rfl 25 (.tmp 3) rfl W1.heap.size 0 rfl (patI mi ma mf xf ms xs pr se ic sci me pl).toList _ (row_range HW3.out) Tryd.underlying25 rfl (by kernel_rfl) ?_)
    | (go_at_call 16; (with_reducible refine (HS.out _ HB3.out).mono ?_); rintro e W5 ⟨rfl, b5⟩; have HB5 := Lib.hid (below_step HB3.out b5); have HW5 := heap_keeps b5 HW3.out; have d0 : W5.cell? ⟨W1.heap.size, 0, none⟩ = some (.slice none 0 0) := blk_cell HW5 0; have d1 : W5.cell? ⟨W1.heap.size, 1, none⟩ = some (.slice none 0 0) := blk_cell HW5 1; have d2 : W5.cell? ⟨W1.heap.size, 2, none⟩ = some (.bool false) := blk_cell HW5 2; have d3 : W5.cell? ⟨W1.heap.size, 3, none⟩ = some (.slice none 0 0) := blk_cell HW5 3; have d4 : W5.cell? ⟨W1.heap.size, 4, none⟩ = some (.slice none 0 0) := blk_cell HW5 4; have d17 : W5.cell? ⟨W1.heap.size, 17, none⟩ = some (.int .i64 0) := blk_cell HW5 17; have d18 : W5.cell? ⟨W1.heap.size, 18, none⟩ = some (.int .i32 0) := blk_cell HW5 18; have d19 : W5.cell? ⟨W1.heap.size, 19, none⟩ = some (.int .i64 0) := blk_cell HW5 19; clear b5 HW5))
  go_ret
  exact ⟨rfl, HB5.out⟩
def figureheadlaw15_NumberFields.f (l0_0 : List (S70)) (l0_1 : List (S70)) (a0_2 : Bool) (l0_3 : List (S70)) (l0_4 : List (S70)) (a0_5 : Int) (a0_6 : Int) (a0_7 : Int) (a0_8 : Int) (a0_9 : Int) (a0_10 : Int) (a0_11 : Int) (a0_12 : Int) (a0_13 : ByteArray) (a0_14 : Bool) (a0_15 : Int) (a0_16 : Bool) (a0_17 : Int) (a0_18 : Int) (a0_19 : Int) : Option (Bool) := some true
set_option maxHeartbeats 4000000 in
set_option maxRecDepth 100000 in
theorem figureheadlaw15_NumberFields.calls (A0_0 : Option Addr) (c0_0 : Nat) (l0_0 : List (S70)) (A0_1 : Option Addr) (c0_1 : Nat) (l0_1 : List (S70)) (a0_2 : Bool) (A0_3 : Option Addr) (c0_3 : Nat) (l0_3 : List (S70)) (A0_4 : Option Addr) (c0_4 : Nat) (l0_4 : List (S70)) (a0_5 : Int) (a0_6 : Int) (a0_7 : Int) (a0_8 : Int) (a0_9 : Int) (a0_10 : Int) (a0_11 : Int) (a0_12 : Int) (a0_13 : ByteArray) (a0_14 : Bool) (a0_15 : Int) (a0_16 : Bool) (a0_17 : Int) (a0_18 : Int) (a0_19 : Int) (r : Bool) (w : World) (hr0_0 : Kd.C k70 w A0_0 l0_0.length l0_0) (hc0_0 : l0_0.length ≤ c0_0) (hr0_1 : Kd.C k70 w A0_1 l0_1.length l0_1) (hc0_1 : l0_1.length ≤ c0_1) (hr0_3 : Kd.C k70 w A0_3 l0_3.length l0_3) (hc0_3 : l0_3.length ≤ c0_3) (hr0_4 : Kd.C k70 w A0_4 l0_4.length l0_4) (hc0_4 : l0_4.length ≤ c0_4) (hT : Tabs w) (h : figureheadlaw15_NumberFields.f l0_0 l0_1 a0_2 l0_3 l0_4 a0_5 a0_6 a0_7 a0_8 a0_9 a0_10 a0_11 a0_12 a0_13 a0_14 a0_15 a0_16 a0_17 a0_18 a0_19 = some r) :
    Calls Tryd.prog 8 #[.agg #[.slice A0_0 l0_0.length c0_0, .slice A0_1 l0_1.length c0_1, .bool a0_2, .slice A0_3 l0_3.length c0_3, .slice A0_4 l0_4.length c0_4, .int .i64 a0_5, .int .i64 a0_6, .int .i64 a0_7, .int .i64 a0_8, .int .i64 a0_9, .int .i64 a0_10, .int .i64 a0_11, .int .i64 a0_12, .string a0_13, .bool a0_14, .int .i64 a0_15, .bool a0_16, .int .i64 a0_17, .int .i32 a0_18, .int .i64 a0_19]] w fun e w' => e = .returned (.bool r) ∧ Below w.heap.size w w' := by
  obtain rfl := Option.some.inj h
  refine numberFields_walk _ a0_5 a0_6 a0_7 a0_8 a0_9 a0_10 a0_11 a0_12 a0_13 a0_14 a0_15 a0_16 ⟨rfl, rfl, rfl, rfl, rfl, rfl, rfl, rfl, rfl, rfl, rfl, rfl, rfl⟩ w hT fun W hb => ?_
  refine figureheadref13_SameFields.calls A0_0 c0_0 l0_0 A0_1 c0_1 l0_1 a0_2 A0_3 c0_3 l0_3 A0_4 c0_4 l0_4 a0_5 a0_6 a0_7 a0_8 a0_9 a0_10 a0_11 a0_12 a0_13 a0_14 a0_15 a0_16 a0_17 a0_18 a0_19 none 0 [] none 0 [] false none 0 [] none 0 [] a0_5 a0_6 a0_7 a0_8 a0_9 a0_10 a0_11 a0_12 a0_13 a0_14 a0_15 a0_16 0 0 0 true W (Kd.C_below hr0_0 hb) hc0_0 (Kd.C_below hr0_1 hb) hc0_1 (Kd.C_below hr0_3 hb) hc0_3 (Kd.C_below hr0_4 hb) hc0_4 (Kd.C_nil _ _) (Nat.le_refl _) (Kd.C_nil _ _) (Nat.le_refl _) (Kd.C_nil _ _) (Nat.le_refl _) (Kd.C_nil _ _) (Nat.le_refl _) ?_
  unfold figureheadref13_SameFields.f
  simp
/-- The one pure statement of NumberFields. -/
def figureheadlaw15_NumberFields.Pure : Prop := ∀ (l0_0 : List (S70)) (l0_1 : List (S70)) (a0_2 : Bool) (l0_3 : List (S70)) (l0_4 : List (S70)) (a0_5 : Int) (a0_6 : Int) (a0_7 : Int) (a0_8 : Int) (a0_9 : Int) (a0_10 : Int) (a0_11 : Int) (a0_12 : Int) (a0_13 : ByteArray) (a0_14 : Bool) (a0_15 : Int) (a0_16 : Bool) (a0_17 : Int) (a0_18 : Int) (a0_19 : Int), wf25 (⟨l0_0, l0_1, a0_2, l0_3, l0_4, a0_5, a0_6, a0_7, a0_8, a0_9, a0_10, a0_11, a0_12, a0_13, a0_14, a0_15, a0_16, a0_17, a0_18, a0_19⟩ : S25) → figureheadlaw15_NumberFields.f l0_0 l0_1 a0_2 l0_3 l0_4 a0_5 a0_6 a0_7 a0_8 a0_9 a0_10 a0_11 a0_12 a0_13 a0_14 a0_15 a0_16 a0_17 a0_18 a0_19 = some true
end Go.Proofs.YtgobcejjefgkcaaDoor.Print
