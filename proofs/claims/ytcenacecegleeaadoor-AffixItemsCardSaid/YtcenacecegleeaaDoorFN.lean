/- Package token's token and Scan: contracts. -/
import Derived.Test.YtcenacecegleeaaDoorFK
import Derived.Test.YtcenacecegleeaaDoorPrint5
namespace Go.Proofs.YtcenacecegleeaaDoor.Print
open Go.RowKit Go.Proofs.YtcenacecegleeaaDoor.Utf Go.Proofs.YtcenacecegleeaaDoorW.PrintWords Go.Proofs.YtcenacecegleeaaDoorW.PrintLast Go.Proofs.YtcenacecegleeaaDoorW.PrintMore
set_option linter.unusedVariables false
set_option linter.unusedSimpArgs false

/-- A piece, as the machine has it. -/
def pieceV (x : S36) : Value := .iface (if x.f1 = true then 78 else 76) (.agg #[.int .i32 x.f0, .int .i64 x.f2])
theorem place_calls (r a : Int) (w : World) : Calls Tryd.prog 64 #[.agg #[.int .i32 r, .int .i64 a]] w fun e w' => e = .returned (.int .i64 a) ∧ Below w.heap.size w w' := by
  go_enter Tryd.func64, Tryd.ntmps64
  go_wp2
  go_ret
  exact ⟨rfl, (Below.refl _ w).alloc (Nat.le_refl _) _⟩
set_option maxHeartbeats 8000000 in
set_option maxRecDepth 1000000 in
theorem tok_quoted (r a : Int) (w : World) : Calls Tryd.prog 33 #[.iface 78 (.agg #[.int .i32 r, .int .i64 a])] w fun e w' => e = .returned (.agg #[.int .i32 r, .bool true, .int .i64 a]) ∧ Below w.heap.size w w' := by
  go_enter Tryd.func33, Tryd.ntmps33
  have hm : ∀ w : World, (method 204 78 (.agg #[.int .i32 r, .int .i64 a]) "figurehead/token.place").run Tryd.prog w = .ok (64, .agg #[.int .i32 r, .int .i64 a]) w := fun _ => by kernel_rfl
  have h1 : ∀ W : World, (Instr.typeAssert (.iface 78 (.agg #[.int .i32 r, .int .i64 a])) 58 78 true).run Tryd.prog W = .ok (.tuple #[.agg #[.int .i32 r, .int .i64 a], .bool true]) W := fun _ => by kernel_rfl
  go_wp2_with (go_at_call 64; refine (place_calls r a _).mono ?_; rintro e W1 ⟨rfl, b1⟩; have hs1 := b1.size; have hlt : w.heap.size < W1.heap.size := (by have := b1.size; simp at this; omega); have hlt2 : w.heap.size < W1.heap.size + 1 := (by omega); have hbk : W1.heap[w.heap.size]? = some (.cells #[.int .i32 0, .bool false, .int .i64 0] 36) := heap_keeps b1 (heap_alloc_new _ _); have hc0 : W1.cell? ⟨w.heap.size, 0, none⟩ = some (.int .i32 0) := (cell_of_row W1 _ 0 _ _ _ hbk).trans rfl; have hc1 : W1.cell? ⟨w.heap.size, 1, none⟩ = some (.bool false) := (cell_of_row W1 _ 1 _ _ _ hbk).trans rfl; have hc2 : W1.cell? ⟨w.heap.size, 2, none⟩ = some (.int .i64 0) := (cell_of_row W1 _ 2 _ _ _ hbk).trans rfl; have hf : ∀ j, W1.frozen? ⟨w.heap.size, j, none⟩ = false := fun j => frozen_of_row W1 _ j _ _ hbk)
  refine bodyPost_ret (results_cell_row rfl _ _ w.heap.size 36 #[.int .i32 r, .bool true, .int .i64 a] (0, 0) _ rfl (blk_alloc (blk_alloc (blk_put (cs := #[.int .i32 r, .bool true, .int .i64 0]) (blk_put (cs := #[.int .i32 r, .bool false, .int .i64 0]) (blk_put (cs := #[.int .i32 0, .bool false, .int .i64 0]) hbk 0 (.int .i32 r) rfl) 1 (.bool true) rfl) 2 (.int .i64 a) rfl) _) _) rfl rfl (by kernel_rfl)) rfl ⟨rfl, ?_⟩
  have hb1 : Below w.heap.size w W1 := ((Below.refl _ w).alloc (Nat.le_refl _) _).trans (b1.mono (by simp))
  exact ((below_set (below_set (below_set hb1 (Nat.le_refl _)) (Nat.le_refl _)) (Nat.le_refl _)).alloc (by simp; omega) _).alloc (by simp; omega) _
set_option maxHeartbeats 8000000 in
set_option maxRecDepth 1000000 in
theorem tok_plain (r a : Int) (w : World) : Calls Tryd.prog 33 #[.iface 76 (.agg #[.int .i32 r, .int .i64 a])] w fun e w' => e = .returned (.agg #[.int .i32 r, .bool false, .int .i64 a]) ∧ Below w.heap.size w w' := by
  go_enter Tryd.func33, Tryd.ntmps33
  have hm : ∀ w : World, (method 204 76 (.agg #[.int .i32 r, .int .i64 a]) "figurehead/token.place").run Tryd.prog w = .ok (64, .agg #[.int .i32 r, .int .i64 a]) w := fun _ => by kernel_rfl
  have h1 : ∀ W : World, (Instr.typeAssert (.iface 76 (.agg #[.int .i32 r, .int .i64 a])) 58 78 true).run Tryd.prog W = .ok (.tuple #[.agg #[.int .i32 0, .int .i64 0], .bool false]) W := fun _ => by kernel_rfl
  have h2 : ∀ W : World, (Instr.typeAssert (.iface 76 (.agg #[.int .i32 r, .int .i64 a])) 58 76 true).run Tryd.prog W = .ok (.tuple #[.agg #[.int .i32 r, .int .i64 a], .bool true]) W := fun _ => by kernel_rfl
  go_wp2_with (go_at_call 64; refine (place_calls r a _).mono ?_; rintro e W1 ⟨rfl, b1⟩; have hs1 := b1.size; have hlt : w.heap.size < W1.heap.size := (by have := b1.size; simp at this; omega); have hlt2 : w.heap.size < W1.heap.size + 1 := (by omega); have hbk : W1.heap[w.heap.size]? = some (.cells #[.int .i32 0, .bool false, .int .i64 0] 36) := heap_keeps b1 (heap_alloc_new _ _); have hc0 : W1.cell? ⟨w.heap.size, 0, none⟩ = some (.int .i32 0) := (cell_of_row W1 _ 0 _ _ _ hbk).trans rfl; have hc1 : W1.cell? ⟨w.heap.size, 1, none⟩ = some (.bool false) := (cell_of_row W1 _ 1 _ _ _ hbk).trans rfl; have hc2 : W1.cell? ⟨w.heap.size, 2, none⟩ = some (.int .i64 0) := (cell_of_row W1 _ 2 _ _ _ hbk).trans rfl; have hf : ∀ j, W1.frozen? ⟨w.heap.size, j, none⟩ = false := fun j => frozen_of_row W1 _ j _ _ hbk)
  refine bodyPost_ret (results_cell_row rfl _ _ w.heap.size 36 #[.int .i32 r, .bool false, .int .i64 a] (0, 0) _ rfl (blk_alloc (blk_alloc (blk_put (cs := #[.int .i32 r, .bool false, .int .i64 0]) (blk_put (cs := #[.int .i32 r, .bool false, .int .i64 0]) (blk_put (cs := #[.int .i32 0, .bool false, .int .i64 0]) hbk 0 (.int .i32 r) rfl) 1 (.bool false) rfl) 2 (.int .i64 a) rfl) _) _) rfl rfl (by kernel_rfl)) rfl ⟨rfl, ?_⟩
  have hb1 : Below w.heap.size w W1 := ((Below.refl _ w).alloc (Nat.le_refl _) _).trans (b1.mono (by simp))
  exact ((below_set (below_set (below_set hb1 (Nat.le_refl _)) (Nat.le_refl _)) (Nat.le_refl _)).alloc (by simp; omega) _).alloc (by simp; omega) _
theorem token_calls (x : S36) (w : World) : Calls Tryd.prog 33 #[pieceV x] w fun e w' => e = .returned (.agg #[.int .i32 x.f0, .bool x.f1, .int .i64 x.f2]) ∧ Below w.heap.size w w' := by
  obtain ⟨r, b, a⟩ := x
  cases b with
  | true => exact tok_quoted r a w
  | false => exact tok_plain r a w
end Go.Proofs.YtcenacecegleeaaDoor.Print
