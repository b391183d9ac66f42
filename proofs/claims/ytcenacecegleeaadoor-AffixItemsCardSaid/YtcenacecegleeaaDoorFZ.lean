/- Package token's scanner: what one step does with a quote that stands alone. -/
import Derived.Test.YtcenacecegleeaaDoorFX
namespace Go.Proofs.YtcenacecegleeaaDoor.Print
open Go.RowKit Go.Proofs.YtcenacecegleeaaDoor.Utf Go.Proofs.YtcenacecegleeaaDoorW.PrintWords Go.Proofs.YtcenacecegleeaaDoorW.PrintLast Go.Proofs.YtcenacecegleeaaDoorW.PrintMore
set_option linter.unusedVariables false
set_option linter.unusedSimpArgs false

set_option maxHeartbeats 8000000 in
set_option maxRecDepth 1000000 in
theorem next_alone (opn : Bool) (B g j c : Nat) (A : Option Addr) (m : List Int) (r at_ op : Int) (ps : List S36) (pv : Value) (w0 W : World) (hB : W.heap[B]? = some (.cells #[.slice A m.length c, .int .i64 at_, .int .i64 op, pv] 56)) (hA : A = some ⟨g, j, none⟩)
    (hc : W.cell? ⟨g, j, none⟩ = some (.int .i32 r)) (hr : (r == 39) = true) (hop : decide (op < 0) = opn) (hml : 0 < m.length)
    (h2 : decide (1 < ((m.length : Nat) : Int)) = false ∨ (decide (1 < ((m.length : Nat) : Int)) = true ∧ ∃ r2, W.cell? ⟨g, j + 1, none⟩ = some (.int .i32 r2) ∧ (r2 == 39) = false))
    (hown : W.ownsRow w0.heap.size 58 1 pv ps.length (ps.map pieceV)) (hne : some B ≠ pv.ownBlock) (hpb : ∀ k, pv.ownBlock = some k → w0.heap.size ≤ k) (sz : Int) (HSZ : Hid (token_size.f r = some sz)) (hwr : wrap64 (at_ + sz) = at_ + sz) (hbw : Below w0.heap.size w0 W) (hbB : w0.heap.size ≤ B) :
    Calls Tryd.prog 32 #[.pointer (some ⟨B, 0, none⟩)] W fun e W' => e = .returned (.tuple #[]) ∧ StepPost w0 W W' B pv ps (cutA A c 1 1) (m.length - 1) (c - 1) (at_ + sz) (if opn = true then at_ else -1) := by
  have hia : ∀ W, (Instr.indexAt 45 (.slice A m.length c) (.int .i64 0)).run Tryd.prog W = .ok (.pointer (some ⟨g, j, none⟩)) W := fun W => by
    have := idx_run m.length c 0 g j A W hA hml
    exact this
  have hia1 : decide (1 < ((m.length : Nat) : Int)) = true → ∀ W, (Instr.indexAt 45 (.slice A m.length c) (.int .i64 1)).run Tryd.prog W = .ok (.pointer (some ⟨g, j + 1, none⟩)) W := fun h W => by
    have h := of_decide_eq_true h
    have := idx_run m.length c 1 g j A W hA (by omega)
    exact this
  have hsl : ∀ W, (Instr.slice 45 (.slice A m.length c) (some (.int .i64 1)) none none).run Tryd.prog W = .ok (.slice (cutA A c 1 1) (m.length - 1) (c - 1)) W := fun W => run_drop 45 21 1 Tryd.underlying45 z_i32 A m.length c 1 hml
  have b0 := (blk_cell hB 0).trans rfl
  have b1 := (blk_cell hB 1).trans rfl
  have b2 := (blk_cell hB 2).trans rfl
  have f2 := blk_frozen hB 2
  have hlB : B < W.heap.size := (Array.getElem?_eq_some_iff.1 hB).1
  have hpl1 : ∀ k, pv.ownBlock = some k → k < W.heap.size := fun k hk => by
    obtain ⟨cells, hk2⟩ := own_typed hown k hk
    exact (Array.getElem?_eq_some_iff.1 hk2).1
  clear hA
  obtain ⟨nop, hnop⟩ : ∃ nop : Int, (if opn = true then at_ else -1) = nop := ⟨_, rfl⟩
  rw [hnop]
  have HN := Lib.hid hnop
  clear hnop
  go_enter Tryd.func32, Tryd.ntmps32
  rcases h2 with h2 | ⟨h2, r2, hc2, hr2⟩
  · clear hia1
    cases opn with
    | true =>
      have hop' : (at_ : Int) = nop := by
        have := HN.out
        simpa using this
      subst hop'
      go_wp2
      refine wp_loop_rounds 2 ?_
      rw [rounds_succ]
      have hbox : (W.setCell ⟨B, 2, none⟩ (.int .i64 (at_))).heap[B]? = some (.cells #[.slice A m.length c, .int .i64 at_, .int .i64 (at_), pv] 56) := blk_put hB 2 _ rfl
      obtain ⟨w2, hw2⟩ : ∃ w2, w2 = W.setCell ⟨B, 2, none⟩ (.int .i64 (at_)) := ⟨_, rfl⟩
      rw [← hw2] at hbox
      try simp only [← hw2]
      have d1 := (blk_cell hbox 1).trans rfl
      have g1 := blk_frozen hbox 1
      have hw2s : w2.heap.size = W.heap.size := by rw [hw2]; simp
      have hw2k : ∀ k, k ≠ B → w2.heap[k]? = W.heap[k]? := fun k hk => by rw [hw2]; exact heap_setCell_other _ _ _ _ hk
      have hbw2 : Below w0.heap.size w0 w2 := by rw [hw2]; exact below_set hbw hbB
      clear hw2 b0 b1 b2 f2
      go_wp2
      have e1 : w2.drew.cell? ⟨B, 1, none⟩ = some (.int .i64 at_) := d1
      go_region_law (go_simp; go_at_call 41; (with_reducible refine (token_size.calls r sz _ HSZ.out).mono ?_); rintro e w3 ⟨rfl, b2⟩; have hbox3 := heap_keeps b2 hbox; have e2 : w3.cell? ⟨B, 1, none⟩ = some (.int .i64 at_) := ((blk_cell hbox3 1).trans rfl); have f2 : w3.frozen? ⟨B, 1, none⟩ = false := blk_frozen hbox3 1)
      all_goals (
        have hbox4 : (w3.setCell ⟨B, 1, none⟩ (.int .i64 (at_ + sz))).heap[B]? = some (.cells #[.slice A m.length c, .int .i64 (at_ + sz), .int .i64 (at_), pv] 56) := blk_put hbox3 1 _ rfl
        have s0 : (w3.setCell ⟨B, 1, none⟩ (.int .i64 (at_ + sz))).cell? ⟨B, 0, none⟩ = some (.slice A m.length c) := (blk_cell hbox4 0).trans rfl
        have s1 : (w3.setCell ⟨B, 1, none⟩ (.int .i64 (at_ + sz))).frozen? ⟨B, 0, none⟩ = false := blk_frozen hbox4 0
        go_wp2
        rw [rounds_succ]
        go_wp2
        go_end0
        have hbox5 := blk_put hbox4 0 (.slice (cutA A c 1 1) (m.length - 1) (c - 1)) rfl
        refine ⟨rfl, step_fin hbB hlB hbox5 hown hbw (Nat.le_refl _) (fun k o hk _ => hk) (fun k hk hl => ?_) (fun h => ?_) hne hpl1 (Or.inl rfl)⟩
        · rw [heap_setCell_other _ _ _ _ hk, heap_setCell_other _ _ _ _ hk]
          exact (b2.block k (show k < w2.heap.size by rw [hw2s]; exact hl)).trans (hw2k k hk)
        · exact below_set (below_set ((below_drew1 hbw2).trans (b2.mono (show w0.heap.size ≤ w2.heap.size by rw [hw2s]; exact h.size))) hbB) hbB)
    | false =>
      have hop' : (-1 : Int) = nop := by
        have := HN.out
        simpa using this
      subst hop'
      go_wp2
      refine wp_loop_rounds 2 ?_
      rw [rounds_succ]
      have hbox : (W.setCell ⟨B, 2, none⟩ (.int .i64 (-1))).heap[B]? = some (.cells #[.slice A m.length c, .int .i64 at_, .int .i64 (-1), pv] 56) := blk_put hB 2 _ rfl
      obtain ⟨w2, hw2⟩ : ∃ w2, w2 = W.setCell ⟨B, 2, none⟩ (.int .i64 (-1)) := ⟨_, rfl⟩
      rw [← hw2] at hbox
      try simp only [← hw2]
      have d1 := (blk_cell hbox 1).trans rfl
      have g1 := blk_frozen hbox 1
      have hw2s : w2.heap.size = W.heap.size := by rw [hw2]; simp
      have hw2k : ∀ k, k ≠ B → w2.heap[k]? = W.heap[k]? := fun k hk => by rw [hw2]; exact heap_setCell_other _ _ _ _ hk
      have hbw2 : Below w0.heap.size w0 w2 := by rw [hw2]; exact below_set hbw hbB
      clear hw2 b0 b1 b2 f2
      go_wp2
      have e1 : w2.drew.cell? ⟨B, 1, none⟩ = some (.int .i64 at_) := d1
      go_region_law (go_simp; go_at_call 41; (with_reducible refine (token_size.calls r sz _ HSZ.out).mono ?_); rintro e w3 ⟨rfl, b2⟩; have hbox3 := heap_keeps b2 hbox; have e2 : w3.cell? ⟨B, 1, none⟩ = some (.int .i64 at_) := ((blk_cell hbox3 1).trans rfl); have f2 : w3.frozen? ⟨B, 1, none⟩ = false := blk_frozen hbox3 1)
      all_goals (
        have hbox4 : (w3.setCell ⟨B, 1, none⟩ (.int .i64 (at_ + sz))).heap[B]? = some (.cells #[.slice A m.length c, .int .i64 (at_ + sz), .int .i64 (-1), pv] 56) := blk_put hbox3 1 _ rfl
        have s0 : (w3.setCell ⟨B, 1, none⟩ (.int .i64 (at_ + sz))).cell? ⟨B, 0, none⟩ = some (.slice A m.length c) := (blk_cell hbox4 0).trans rfl
        have s1 : (w3.setCell ⟨B, 1, none⟩ (.int .i64 (at_ + sz))).frozen? ⟨B, 0, none⟩ = false := blk_frozen hbox4 0
        go_wp2
        rw [rounds_succ]
        go_wp2
        go_end0
        have hbox5 := blk_put hbox4 0 (.slice (cutA A c 1 1) (m.length - 1) (c - 1)) rfl
        refine ⟨rfl, step_fin hbB hlB hbox5 hown hbw (Nat.le_refl _) (fun k o hk _ => hk) (fun k hk hl => ?_) (fun h => ?_) hne hpl1 (Or.inl rfl)⟩
        · rw [heap_setCell_other _ _ _ _ hk, heap_setCell_other _ _ _ _ hk]
          exact (b2.block k (show k < w2.heap.size by rw [hw2s]; exact hl)).trans (hw2k k hk)
        · exact below_set (below_set ((below_drew1 hbw2).trans (b2.mono (show w0.heap.size ≤ w2.heap.size by rw [hw2s]; exact h.size))) hbB) hbB)
  · cases opn with
    | true =>
      have hia1' := hia1 h2
      have hop' : (at_ : Int) = nop := by
        have := HN.out
        simpa using this
      subst hop'
      go_wp2
      refine wp_loop_rounds 2 ?_
      rw [rounds_succ]
      have hbox : (W.setCell ⟨B, 2, none⟩ (.int .i64 (at_))).heap[B]? = some (.cells #[.slice A m.length c, .int .i64 at_, .int .i64 (at_), pv] 56) := blk_put hB 2 _ rfl
      obtain ⟨w2, hw2⟩ : ∃ w2, w2 = W.setCell ⟨B, 2, none⟩ (.int .i64 (at_)) := ⟨_, rfl⟩
      rw [← hw2] at hbox
      try simp only [← hw2]
      have d1 := (blk_cell hbox 1).trans rfl
      have g1 := blk_frozen hbox 1
      have hw2s : w2.heap.size = W.heap.size := by rw [hw2]; simp
      have hw2k : ∀ k, k ≠ B → w2.heap[k]? = W.heap[k]? := fun k hk => by rw [hw2]; exact heap_setCell_other _ _ _ _ hk
      have hbw2 : Below w0.heap.size w0 w2 := by rw [hw2]; exact below_set hbw hbB
      clear hw2 b0 b1 b2 f2
      go_wp2
      have e1 : w2.drew.cell? ⟨B, 1, none⟩ = some (.int .i64 at_) := d1
      go_region_law (go_simp; go_at_call 41; (with_reducible refine (token_size.calls r sz _ HSZ.out).mono ?_); rintro e w3 ⟨rfl, b2⟩; have hbox3 := heap_keeps b2 hbox; have e2 : w3.cell? ⟨B, 1, none⟩ = some (.int .i64 at_) := ((blk_cell hbox3 1).trans rfl); have f2 : w3.frozen? ⟨B, 1, none⟩ = false := blk_frozen hbox3 1)
      all_goals (
        have hbox4 : (w3.setCell ⟨B, 1, none⟩ (.int .i64 (at_ + sz))).heap[B]? = some (.cells #[.slice A m.length c, .int .i64 (at_ + sz), .int .i64 (at_), pv] 56) := blk_put hbox3 1 _ rfl
        have s0 : (w3.setCell ⟨B, 1, none⟩ (.int .i64 (at_ + sz))).cell? ⟨B, 0, none⟩ = some (.slice A m.length c) := (blk_cell hbox4 0).trans rfl
        have s1 : (w3.setCell ⟨B, 1, none⟩ (.int .i64 (at_ + sz))).frozen? ⟨B, 0, none⟩ = false := blk_frozen hbox4 0
        go_wp2
        rw [rounds_succ]
        go_wp2
        go_end0
        have hbox5 := blk_put hbox4 0 (.slice (cutA A c 1 1) (m.length - 1) (c - 1)) rfl
        refine ⟨rfl, step_fin hbB hlB hbox5 hown hbw (Nat.le_refl _) (fun k o hk _ => hk) (fun k hk hl => ?_) (fun h => ?_) hne hpl1 (Or.inl rfl)⟩
        · rw [heap_setCell_other _ _ _ _ hk, heap_setCell_other _ _ _ _ hk]
          exact (b2.block k (show k < w2.heap.size by rw [hw2s]; exact hl)).trans (hw2k k hk)
        · exact below_set (below_set ((below_drew1 hbw2).trans (b2.mono (show w0.heap.size ≤ w2.heap.size by rw [hw2s]; exact h.size))) hbB) hbB)
    | false =>
      have hia1' := hia1 h2
      have hop' : (-1 : Int) = nop := by
        have := HN.out
        simpa using this
      subst hop'
      go_wp2
      refine wp_loop_rounds 2 ?_
      rw [rounds_succ]
      have hbox : (W.setCell ⟨B, 2, none⟩ (.int .i64 (-1))).heap[B]? = some (.cells #[.slice A m.length c, .int .i64 at_, .int .i64 (-1), pv] 56) := blk_put hB 2 _ rfl
      obtain ⟨w2, hw2⟩ : ∃ w2, w2 = W.setCell ⟨B, 2, none⟩ (.int .i64 (-1)) := ⟨_, rfl⟩
      rw [← hw2] at hbox
      try simp only [← hw2]
      have d1 := (blk_cell hbox 1).trans rfl
      have g1 := blk_frozen hbox 1
      have hw2s : w2.heap.size = W.heap.size := by rw [hw2]; simp
      have hw2k : ∀ k, k ≠ B → w2.heap[k]? = W.heap[k]? := fun k hk => by rw [hw2]; exact heap_setCell_other _ _ _ _ hk
      have hbw2 : Below w0.heap.size w0 w2 := by rw [hw2]; exact below_set hbw hbB
      clear hw2 b0 b1 b2 f2
      go_wp2
      have e1 : w2.drew.cell? ⟨B, 1, none⟩ = some (.int .i64 at_) := d1
      go_region_law (go_simp; go_at_call 41; (with_reducible refine (token_size.calls r sz _ HSZ.out).mono ?_); rintro e w3 ⟨rfl, b2⟩; have hbox3 := heap_keeps b2 hbox; have e2 : w3.cell? ⟨B, 1, none⟩ = some (.int .i64 at_) := ((blk_cell hbox3 1).trans rfl); have f2 : w3.frozen? ⟨B, 1, none⟩ = false := blk_frozen hbox3 1)
      all_goals (
        have hbox4 : (w3.setCell ⟨B, 1, none⟩ (.int .i64 (at_ + sz))).heap[B]? = some (.cells #[.slice A m.length c, .int .i64 (at_ + sz), .int .i64 (-1), pv] 56) := blk_put hbox3 1 _ rfl
        have s0 : (w3.setCell ⟨B, 1, none⟩ (.int .i64 (at_ + sz))).cell? ⟨B, 0, none⟩ = some (.slice A m.length c) := (blk_cell hbox4 0).trans rfl
        have s1 : (w3.setCell ⟨B, 1, none⟩ (.int .i64 (at_ + sz))).frozen? ⟨B, 0, none⟩ = false := blk_frozen hbox4 0
        go_wp2
        rw [rounds_succ]
        go_wp2
        go_end0
        have hbox5 := blk_put hbox4 0 (.slice (cutA A c 1 1) (m.length - 1) (c - 1)) rfl
        refine ⟨rfl, step_fin hbB hlB hbox5 hown hbw (Nat.le_refl _) (fun k o hk _ => hk) (fun k hk hl => ?_) (fun h => ?_) hne hpl1 (Or.inl rfl)⟩
        · rw [heap_setCell_other _ _ _ _ hk, heap_setCell_other _ _ _ _ hk]
          exact (b2.block k (show k < w2.heap.size by rw [hw2s]; exact hl)).trans (hw2k k hk)
        · exact below_set (below_set ((below_drew1 hbw2).trans (b2.mono (show w0.heap.size ≤ w2.heap.size by rw [hw2s]; exact h.size))) hbB) hbB)
end Go.Proofs.YtcenacecegleeaaDoor.Print
/- Package token's scanner: what one step does with a quote that stands twice. -/
namespace Go.Proofs.YtcenacecegleeaaDoor.Print
open Go.RowKit Go.Proofs.YtcenacecegleeaaDoor.Utf Go.Proofs.YtcenacecegleeaaDoorW.PrintWords Go.Proofs.YtcenacecegleeaaDoorW.PrintLast Go.Proofs.YtcenacecegleeaaDoorW.PrintMore
set_option linter.unusedVariables false
set_option linter.unusedSimpArgs false

set_option maxHeartbeats 8000000 in
set_option maxRecDepth 1000000 in
theorem next_twice (B g j c : Nat) (A : Option Addr) (m : List Int) (r at_ op : Int) (ps : List S36) (pv : Value) (w0 W : World) (hB : W.heap[B]? = some (.cells #[.slice A m.length c, .int .i64 at_, .int .i64 op, pv] 56)) (hm0 : m[0]? = some r) (hA : A = some ⟨g, j, none⟩)
    (hc : W.cell? ⟨g, j, none⟩ = some (.int .i32 r)) (hr : (r == 39) = true) (h2 : decide (1 < ((m.length : Nat) : Int)) = true) (r2 : Int) (hc2 : W.cell? ⟨g, j + 1, none⟩ = some (.int .i32 r2)) (hr2 : (r2 == 39) = true) (hml : 0 < m.length)
    (hown : W.ownsRow w0.heap.size 58 1 pv ps.length (ps.map pieceV)) (hne : some B ≠ pv.ownBlock) (hpb : ∀ k, pv.ownBlock = some k → w0.heap.size ≤ k) (hpl : ps.length ≤ 1000000000000) (sz : Int) (HSZ : Hid (token_size.f r = some sz)) (hwr : wrap64 (at_ + sz) = at_ + sz) (hwr2 : wrap64 (at_ + sz + sz) = at_ + sz + sz) (hbw : Below w0.heap.size w0 W) (hbB : w0.heap.size ≤ B) :
    Calls Tryd.prog 32 #[.pointer (some ⟨B, 0, none⟩)] W fun e W' => e = .returned (.tuple #[]) ∧ StepPost w0 W W' B pv (ps ++ [⟨39, true, at_⟩]) (cutA A c 2 1) (m.length - 2) (c - 2) (at_ + sz + sz) op := by
  have hia : ∀ W, (Instr.indexAt 45 (.slice A m.length c) (.int .i64 0)).run Tryd.prog W = .ok (.pointer (some ⟨g, j, none⟩)) W := fun W => by
    have := idx_run m.length c 0 g j A W hA hml
    exact this
  have hia1 : ∀ W, (Instr.indexAt 45 (.slice A m.length c) (.int .i64 1)).run Tryd.prog W = .ok (.pointer (some ⟨g, j + 1, none⟩)) W := fun W => by
    have h := of_decide_eq_true h2
    have := idx_run m.length c 1 g j A W hA (by omega)
    exact this
  have hm2 : 2 ≤ m.length := by
    have h := of_decide_eq_true h2
    omega
  have b0 := blk_cell hB 0
  have b1 := blk_cell hB 1
  have b2 := blk_cell hB 2
  have b3 := blk_cell hB 3
  simp only [List.getElem?_toArray, List.getElem?_cons_zero, List.getElem?_cons_succ] at b0 b1 b2 b3
  clear hA
  go_enter Tryd.func32, Tryd.ntmps32
  go_wp2
  obtain ⟨i0, hi0, hz0, hsz0, hby0⟩ := info_parts info_piece
  have hlB : B < W.heap.size := (Array.getElem?_eq_some_iff.1 hB).1
  go_region_law (refine step_append_lies _ rfl (.tmp 53) (.tmp 61) 54 rfl w0.heap.size 58 i0 .nilIface 1 16 Tryd.underlying54 hi0 hz0 hsz0 hby0 rfl (by decide) pv ps.length (ps.map pieceV) (by simp [Act.eval, Act.put]) (own_alloc (W := W.drew) hown _) ⟨W.heap.size, 0, none⟩ 1 1 [pieceV ⟨39, true, at_⟩] (by simp [Act.eval, Act.put]) rfl (World.news_of_block (cs := #[pieceV ⟨39, true, at_⟩]) (heap_alloc_new W.drew _)) (fun u hu => by rw [List.mem_singleton.1 hu]; rfl) (by decide) (by unfold maxLen; omega) (by omega) (by simp; omega) (W.heap.size + 1) (by simp) ?_; intro gg cap w1 hown1 hgrow hat hlt; have hB1 : w1.heap[B]? = some (.cells #[.slice A m.length c, .int .i64 at_, .int .i64 op, pv] 56) := (hgrow.block B (by simp; omega) hne).trans (blk_alloc (w := W.drew) hB _); have e3 : w1.cell? ⟨B, 3, none⟩ = some pv := (blk_cell hB1 3).trans rfl; have f3 : w1.frozen? ⟨B, 3, none⟩ = false := blk_frozen hB1 3)
  all_goals (
    have hbox : (w1.setCell ⟨B, 3, none⟩ (.slice (some ⟨gg, 0, none⟩) (ps.length + 1) cap)).heap[B]? = some (.cells #[.slice A m.length c, .int .i64 at_, .int .i64 op, .slice (some ⟨gg, 0, none⟩) (ps.length + 1) cap] 56) := blk_put hB1 3 _ rfl
    obtain ⟨w2, hw2⟩ : ∃ w2, w2 = w1.setCell ⟨B, 3, none⟩ (.slice (some ⟨gg, 0, none⟩) (ps.length + 1) cap) := ⟨_, rfl⟩
    rw [← hw2] at hbox
    try simp only [← hw2]
    have d1 := (blk_cell hbox 1).trans rfl
    have g1 := blk_frozen hbox 1
    have hw2s : w2.heap.size = w1.heap.size := by rw [hw2]; simp
    have hw2k : ∀ k, k ≠ B → w2.heap[k]? = w1.heap[k]? := fun k hk => by rw [hw2]; exact heap_setCell_other _ _ _ _ hk
    have hbw1 : Below w0.heap.size w0 w1 := Below.grown (by repeat (first | (with_reducible first | exact hbw | apply below_alloc | apply pw_below_drewN | apply below_drew1) | exact hbw)) hgrow (by simp; have := hbw.size; omega) hpb
    have hbw2 : Below w0.heap.size w0 w2 := by rw [hw2]; exact below_set hbw1 hbB
    have hsz1 : W.heap.size ≤ w1.heap.size := Nat.le_trans (by simp) hgrow.size
    have hfr1 : ∀ k o, W.heap[k]? = some o → some k ≠ pv.ownBlock → w1.heap[k]? = some o := fun k o hk hkp => (hgrow.block k (by have := blk_lt hk; simp; omega) hkp).trans (blk_alloc hk _)
    have hneg : some B ≠ (Value.slice (some ⟨gg, 0, none⟩) (ps.length + 1) cap).ownBlock := fun e => by
      have e : B = gg := Option.some.inj e
      rcases hat with hat | hat
      · exact hne (by rw [hat, e])
      · omega
    have hat2 : (Value.slice (some ⟨gg, 0, none⟩) (ps.length + 1) cap).ownBlock = pv.ownBlock ∨ ∃ b, (Value.slice (some ⟨gg, 0, none⟩) (ps.length + 1) cap).ownBlock = some b ∧ W.heap.size ≤ b := by
      rcases hat with hat | hat
      · exact Or.inl hat.symm
      · exact Or.inr ⟨gg, rfl, by omega⟩
    clear hw2 e3 f3 b0 b1 b2 b3
    go_wp2
    refine wp_loop_rounds 3 ?_
    rw [rounds_succ]
    go_wp2
    have e1 : w2.drew.cell? ⟨B, 1, none⟩ = some (.int .i64 at_) := d1
    go_region_law (go_simp; go_at_call 41; (with_reducible refine (token_size.calls r sz _ HSZ.out).mono ?_); rintro e w3 ⟨rfl, b2⟩; have hbox3 := heap_keeps b2 hbox; have e2 : w3.cell? ⟨B, 1, none⟩ = some (.int .i64 at_) := ((blk_cell hbox3 1).trans rfl); have f2 : w3.frozen? ⟨B, 1, none⟩ = false := blk_frozen hbox3 1)
    all_goals (
      have hsl : ∀ W, (Instr.slice 45 (.slice A m.length c) (some (.int .i64 2)) none none).run Tryd.prog W = .ok (.slice (cutA A c 2 1) (m.length - 2) (c - 2)) W := fun W => run_drop 45 21 1 Tryd.underlying45 z_i32 A m.length c 2 hm2
      have hbox4 : (w3.setCell ⟨B, 1, none⟩ (.int .i64 (at_ + sz))).heap[B]? = some (.cells #[.slice A m.length c, .int .i64 (at_ + sz), .int .i64 op, .slice (some ⟨gg, 0, none⟩) (ps.length + 1) cap] 56) := blk_put hbox3 1 _ rfl
      go_wp2
      rw [rounds_succ]
      have hw4s : (w3.setCell ⟨B, 1, none⟩ (.int .i64 (at_ + sz))).heap.size = w3.heap.size := by simp
      have hw4k : ∀ k, k ≠ B → (w3.setCell ⟨B, 1, none⟩ (.int .i64 (at_ + sz))).heap[k]? = w3.heap[k]? := fun k hk => heap_setCell_other _ _ _ _ hk
      have hbw4 : Below w0.heap.size w0 (w3.setCell ⟨B, 1, none⟩ (.int .i64 (at_ + sz))) := below_set ((below_drew1 hbw2).trans (b2.mono (show w0.heap.size ≤ w2.heap.size from hbw2.size))) hbB
      have hs23 : w2.heap.size ≤ w3.heap.size := b2.size
      have d4 := (blk_cell hbox4 1).trans rfl
      have g4 := blk_frozen hbox4 1
      clear e2 f2 d1 g1 e1
      go_wp2
      have e4 : (w3.setCell ⟨B, 1, none⟩ (.int .i64 (at_ + sz))).drew.cell? ⟨B, 1, none⟩ = some (.int .i64 (at_ + sz)) := d4
      go_region_law (go_simp; go_at_call 41; (with_reducible refine (token_size.calls r sz _ HSZ.out).mono ?_); rintro e w5 ⟨rfl, b5⟩; have hbox5 := heap_keeps b5 hbox4; have e5 : w5.cell? ⟨B, 1, none⟩ = some (.int .i64 (at_ + sz)) := ((blk_cell hbox5 1).trans rfl); have f5 : w5.frozen? ⟨B, 1, none⟩ = false := blk_frozen hbox5 1)
      all_goals (
        have hbox6 : (w5.setCell ⟨B, 1, none⟩ (.int .i64 (at_ + sz + sz))).heap[B]? = some (.cells #[.slice A m.length c, .int .i64 (at_ + sz + sz), .int .i64 op, .slice (some ⟨gg, 0, none⟩) (ps.length + 1) cap] 56) := blk_put hbox5 1 _ rfl
        have s0 : (w5.setCell ⟨B, 1, none⟩ (.int .i64 (at_ + sz + sz))).cell? ⟨B, 0, none⟩ = some (.slice A m.length c) := (blk_cell hbox6 0).trans rfl
        have s1 : (w5.setCell ⟨B, 1, none⟩ (.int .i64 (at_ + sz + sz))).frozen? ⟨B, 0, none⟩ = false := blk_frozen hbox6 0
        go_wp2
        rw [rounds_succ]
        go_wp2
        go_end0
        have hbox7 := blk_put hbox6 0 (.slice (cutA A c 2 1) (m.length - 2) (c - 2)) rfl
        refine ⟨rfl, step_fin hbB hlB hbox7 (by rw [List.length_append, List.map_append]; exact hown1) hbw1 hsz1 hfr1 (fun k hk hl => ?_) (fun h => ?_) hneg (fun k hk => ?_) hat2⟩
        · rw [heap_setCell_other _ _ _ _ hk, heap_setCell_other _ _ _ _ hk]
          exact (b5.block k (show k < (w3.setCell ⟨B, 1, none⟩ (.int .i64 (at_ + sz))).heap.size by rw [hw4s]; omega)).trans ((hw4k k hk).trans ((b2.block k (show k < w2.heap.size by rw [hw2s]; exact hl)).trans (hw2k k hk)))
        · exact below_set (below_set ((below_drew1 hbw4).trans (b5.mono (show w0.heap.size ≤ (w3.setCell ⟨B, 1, none⟩ (.int .i64 (at_ + sz))).heap.size from hbw4.size))) hbB) hbB
        · have : gg = k := Option.some.inj hk
          rw [← this]; exact hlt)))
end Go.Proofs.YtcenacecegleeaaDoor.Print
