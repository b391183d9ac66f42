/- The reference's SamePattern at a pattern and itself. -/
import Derived.Test.YtgobcejjefgkcaaDoorNs
import Derived.Test.YtgobcejjefgkcaaDoorNsi
namespace Go.Proofs.YtgobcejjefgkcaaDoor.Print
open Go.RowKit Go.Proofs.YtgobcejjefgkcaaDoorW.PrintWords Go.Proofs.YtgobcejjefgkcaaDoorW.PrintLast Go.Proofs.YtgobcejjefgkcaaDoorW.PrintMore
set_option linter.unusedVariables false
set_option linter.unusedSimpArgs false

theorem items_none (w : World) : Calls Tryd.prog 27 #[.slice none 0 0, .slice none 0 0] w fun e w' => e = .returned (.bool true) ∧ Below w.heap.size w w' := by
  refine (figureheadref13_SameItems.calls 1 none 0 [] none 0 [] true w (Kd.C_nil _ _) (Nat.le_refl _) (Kd.C_nil _ _) (Nat.le_refl _) ?_).mono fun e w' h => ⟨h.1, Drawn0.below h.2⟩
  unfold figureheadref13_SameItems.f figureheadref13_SameItems.l0
  simp
set_option maxHeartbeats 8000000 in
set_option maxRecDepth 1000000 in
theorem same_fields (mi ma mf xf ms xs pr se : Int) (ic : ByteArray) (sci : Bool) (me : Int) (pl : Bool) (w : World) :
    Calls Tryd.prog 16 #[.agg (patI mi ma mf xf ms xs pr se ic sci me pl), .agg (patI mi ma mf xf ms xs pr se ic sci me pl)] w fun e w' => e = .returned (.bool true) ∧ Below w.heap.size w w' := by
  obtain ⟨p, hpp⟩ : ∃ p, p = patI mi ma mf xf ms xs pr se ic sci me pl := ⟨_, rfl⟩
  have hp : (w.alloc (.cells p 25 (0, 0))).heap[w.heap.size]? = some (.cells p 25 (0, 0)) := heap_alloc_new w _
  have hb : Below w.heap.size w (w.alloc (.cells p 25 (0, 0))) := (Below.refl w.heap.size w).alloc (Nat.le_refl _) _
  obtain ⟨V, hV⟩ : ∃ V, V = w.alloc (.cells p 25 (0, 0)) := ⟨_, rfl⟩
  rw [← hV] at hp hb
  have hq : (V.alloc (.cells p 25 (0, 0))).heap[V.heap.size]? = some (.cells p 25 (0, 0)) := heap_alloc_new V _
  have hp2 : (V.alloc (.cells p 25 (0, 0))).heap[w.heap.size]? = some (.cells p 25 (0, 0)) := blk_alloc hp _
  have hb2 : Below w.heap.size w (V.alloc (.cells p 25 (0, 0))) := hb.alloc hb.size _
  obtain ⟨U, hU⟩ : ∃ U, U = V.alloc (.cells p 25 (0, 0)) := ⟨_, rfl⟩
  rw [← hU, hpp] at hq hp2
  rw [← hU] at hb2
  obtain ⟨c5, c6, c7, c8, c9, c10, c11, c12, c13, c14, c15, c16⟩ := patI_cells hp2
  obtain ⟨d5, d6, d7, d8, d9, d10, d11, d12, d13, d14, d15, d16⟩ := patI_cells hq
  have HBB := Lib.hid hb2
  have h1 := hV.symm
  have h2 := hU.symm
  rw [← hpp]
  clear hp hb hq hp2 hb2 hV hU hpp
  go_enter Tryd.func16, Tryd.ntmps16
  go_wp2
  go_ret
  exact ⟨by simp, HBB.out⟩
/-- The cells of a pattern that hold no numbers of its own. -/
structure PatNo (cs : Array Value) : Prop where
  size : cs.size = 20
  c0 : cs[0]? = some (.slice none 0 0)
  c1 : cs[1]? = some (.slice none 0 0)
  c2 : cs[2]? = some (.bool false)
  c3 : cs[3]? = some (.slice none 0 0)
  c4 : cs[4]? = some (.slice none 0 0)
  c17 : cs[17]? = some (.int .i64 0)
  c18 : cs[18]? = some (.int .i32 0)
  c19 : cs[19]? = some (.int .i64 0)
theorem PatNo.cells {cs : Array Value} (k : PatNo cs) {W : World} {b : Nat} (h : W.heap[b]? = some (.cells cs 25 (0, 0))) :
    W.cell? ⟨b, 0, none⟩ = some (.slice none 0 0) ∧ W.cell? ⟨b, 1, none⟩ = some (.slice none 0 0) ∧ W.cell? ⟨b, 2, none⟩ = some (.bool false) ∧ W.cell? ⟨b, 3, none⟩ = some (.slice none 0 0) ∧ W.cell? ⟨b, 4, none⟩ = some (.slice none 0 0) ∧ W.cell? ⟨b, 17, none⟩ = some (.int .i64 0) ∧ W.cell? ⟨b, 18, none⟩ = some (.int .i32 0) ∧ W.cell? ⟨b, 19, none⟩ = some (.int .i64 0) :=
  ⟨(blk_cell h 0).trans k.c0, (blk_cell h 1).trans k.c1, (blk_cell h 2).trans k.c2, (blk_cell h 3).trans k.c3, (blk_cell h 4).trans k.c4, (blk_cell h 17).trans k.c17, (blk_cell h 18).trans k.c18, (blk_cell h 19).trans k.c19⟩
theorem patI_no (mi ma mf xf ms xs pr se : Int) (ic : ByteArray) (sci : Bool) (me : Int) (pl : Bool) : PatNo (patI mi ma mf xf ms xs pr se ic sci me pl) := ⟨rfl, rfl, rfl, rfl, rfl, rfl, rfl, rfl, rfl⟩
theorem arr_back {α : Type} (a : Array α) : a.toList.toArray = a := by simp
set_option maxHeartbeats 8000000 in
set_option maxRecDepth 1000000 in
theorem same_walk (p q : Array Value) (kp : PatNo p) (kq : PatNo q) (w : World)
    (hs : ∀ W, Calls Tryd.prog 16 #[.agg p, .agg q] W fun e w' => e = .returned (.bool true) ∧ Below W.heap.size W w') :
    Calls Tryd.prog 12 #[.agg p, .agg q] w fun e w' => e = .returned (.bool true) ∧ Below w.heap.size w w' := by
  have HS := Lib.hid hs
  have HP := Lib.hid kp
  have HQ := Lib.hid kq
  have hp : (w.alloc (.cells p 25 (0, 0))).heap[w.heap.size]? = some (.cells p 25 (0, 0)) := heap_alloc_new w _
  have hb : Below w.heap.size w (w.alloc (.cells p 25 (0, 0))) := (Below.refl w.heap.size w).alloc (Nat.le_refl _) _
  obtain ⟨V, hV⟩ : ∃ V, V = w.alloc (.cells p 25 (0, 0)) := ⟨_, rfl⟩
  rw [← hV] at hp hb
  have hq : (V.alloc (.cells q 25 (0, 0))).heap[V.heap.size]? = some (.cells q 25 (0, 0)) := heap_alloc_new V _
  have hp2 : (V.alloc (.cells q 25 (0, 0))).heap[w.heap.size]? = some (.cells p 25 (0, 0)) := blk_alloc hp _
  have hb2 : Below w.heap.size w (V.alloc (.cells q 25 (0, 0))) := hb.alloc hb.size _
  obtain ⟨U, hU⟩ : ∃ U, U = V.alloc (.cells q 25 (0, 0)) := ⟨_, rfl⟩
  rw [← hU] at hq hp2 hb2
  have HA := Lib.hid hp2
  have HB := Lib.hid hq
  have HBB := Lib.hid hb2
  have h1 := hV.symm
  have h2 := hU.symm
  have hTA := arr_back p
  have hTB := arr_back q
  clear hs kp kq hp hb hq hp2 hb2 hV hU
  go_enter Tryd.func12, Tryd.ntmps12
  go_wp2_with (first
    | (go_at_call 27; (with_reducible refine (items_none _).mono ?_); rintro e W5 ⟨rfl, b5⟩; have HB5 := Lib.hid (below_step HB4.out b5); clear b5)
    | (go_at_call 27; (with_reducible refine (items_none _).mono ?_); rintro e W4 ⟨rfl, b4⟩; have HB4 := Lib.hid (below_step HB3.out b4); have HA4 := heap_keeps b4 HA3.out; have HC4 := heap_keeps b4 HC3.out; obtain ⟨-, -, -, -, -, d17, d18, d19⟩ := HP.out.cells HA4; obtain ⟨-, -, -, -, -, e17, e18, e19⟩ := HQ.out.cells HC4; clear b4 HA4 HC4)
    | (go_at_call 27; (with_reducible refine (items_none _).mono ?_); rintro e W3 ⟨rfl, b3⟩; have HB3 := Lib.hid (below_step HB2.out b3); have HA3 := Lib.hid (heap_keeps b3 HA2.out); have HC3 := Lib.hid (heap_keeps b3 HC2.out); obtain ⟨-, -, -, -, d4, -, -, -⟩ := HP.out.cells HA3.out; obtain ⟨-, -, -, -, e4, -, -, -⟩ := HQ.out.cells HC3.out; clear b3)
    | (go_at_call 27; (with_reducible refine (items_none _).mono ?_); rintro e W2 ⟨rfl, b2⟩; have HB2 := Lib.hid (below_step HB1.out b2); have HA2 := Lib.hid (heap_keeps b2 HA1.out); have HC2 := Lib.hid (heap_keeps b2 HC1.out); obtain ⟨-, -, d2, d3, -, -, -, -⟩ := HP.out.cells HA2.out; obtain ⟨-, -, e2, e3, -, -, -, -⟩ := HQ.out.cells HC2.out; clear b2)
    | (go_at_call 27; (with_reducible refine (items_none _).mono ?_); rintro e W1 ⟨rfl, b1⟩; have HB1 := Lib.hid (below_step HB0.out b1); have HA1 := Lib.hid (heap_keeps b1 HA0.out); have HC1 := Lib.hid (heap_keeps b1 HC0.out); obtain ⟨-, d1, -, -, -, -, -, -⟩ := HP.out.cells HA1.out; obtain ⟨-, e1, -, -, -, -, -, -⟩ := HQ.out.cells HC1.out; clear b1)
    | (go_at_call 16; (with_reducible refine (HS.out _).mono ?_); rintro e W0 ⟨rfl, b0⟩; have HB0 := Lib.hid (below_step HBB.out b0); have HA0 := Lib.hid (heap_keeps b0 HA.out); have HC0 := Lib.hid (heap_keeps b0 HB.out); obtain ⟨d0, -, -, -, -, -, -, -⟩ := HP.out.cells HA0.out; obtain ⟨e0, -, -, -, -, -, -, -⟩ := HQ.out.cells HC0.out; clear b0)
    | ((with_reducible refine gate_dst (N := 5) rfl ?_); refine wpList_load_mid rfl 25 (.tmp 2) rfl w.heap.size 0 rfl p.toList _ (row_range HA.out) Tryd.underlying25 rfl (by rw [Array.length_toList, HP.out.size]; kernel_rfl) ?_)
    | ((with_reducible refine gate_dst (N := 6) rfl ?_); refine wpList_load_mid rfl 25 (.tmp 3) rfl V.heap.size 0 rfl q.toList _ (row_range HB.out) Tryd.underlying25 rfl (by rw [Array.length_toList, HQ.out.size]; kernel_rfl) ?_))
  go_ret
  exact ⟨rfl, HB4.out⟩
theorem same_self (mi ma mf xf ms xs pr se : Int) (ic : ByteArray) (sci : Bool) (me : Int) (pl : Bool) (w : World) :
    Calls Tryd.prog 12 #[.agg (patI mi ma mf xf ms xs pr se ic sci me pl), .agg (patI mi ma mf xf ms xs pr se ic sci me pl)] w fun e w' => e = .returned (.bool true) ∧ Below w.heap.size w w' :=
  same_walk _ _ (patI_no _ _ _ _ _ _ _ _ _ _ _ _) (patI_no _ _ _ _ _ _ _ _ _ _ _ _) w (fun W => same_fields _ _ _ _ _ _ _ _ _ _ _ _ W)
end Go.Proofs.YtgobcejjefgkcaaDoor.Print
