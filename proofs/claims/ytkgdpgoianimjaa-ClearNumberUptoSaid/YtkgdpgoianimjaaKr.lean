/- The reference's Items: its contract. -/
import Derived.Test.YtkgdpgoianimjaaKi
import Derived.Test.YtkgdpgoianimjaaPrint3
import Derived.Test.YtkgdpgoianimjaaPrint4
namespace Go.Proofs.Ytkgdpgoianimjaa.Print
open Go.RowKit Go.Proofs.Ytkgdpgoianimjaa.Utf Go.Proofs.YtkgdpgoianimjaaW.PrintWords Go.Proofs.YtkgdpgoianimjaaW.PrintLast Go.Proofs.YtkgdpgoianimjaaW.PrintMore
set_option linter.unusedVariables false
set_option linter.unusedSimpArgs false

theorem refMark_val (r : Int) : figureheadref13_Mark.f r = some (markB r) := by
  unfold figureheadref13_Mark.f markB
  by_cases h1 : r ≥ 48
  · rw [if_pos h1]
    by_cases h2 : r ≤ 57
    · rw [if_pos h2, decide_eq_true (by omega)]
    · rw [if_neg h2]
      by_cases h3 : r = 35
      · rw [if_pos h3, decide_eq_true (by omega)]
      by_cases h4 : r = 64
      · rw [if_neg h3, if_pos h4, decide_eq_true (by omega)]
      by_cases h5 : r = 44
      · rw [if_neg h3, if_neg h4, if_pos h5, decide_eq_true (by omega)]
      by_cases h6 : r = 46
      · rw [if_neg h3, if_neg h4, if_neg h5, if_pos h6, decide_eq_true (by omega)]
      by_cases h7 : r = 59
      · rw [if_neg h3, if_neg h4, if_neg h5, if_neg h6, if_pos h7, decide_eq_true (by omega)]
      rw [if_neg h3, if_neg h4, if_neg h5, if_neg h6, if_neg h7]
      by_cases h8 : r = 42
      · rw [decide_eq_true (by omega), h8]; rfl
      · rw [decide_eq_false (by omega), beq_eq_false_iff_ne.2 h8]
  · rw [if_neg h1]
    by_cases h3 : r = 35
    · rw [if_pos h3, decide_eq_true (by omega)]
    by_cases h4 : r = 64
    · omega
    by_cases h5 : r = 44
    · rw [if_neg h3, if_neg h4, if_pos h5, decide_eq_true (by omega)]
    by_cases h6 : r = 46
    · rw [if_neg h3, if_neg h4, if_neg h5, if_pos h6, decide_eq_true (by omega)]
    by_cases h7 : r = 59
    · omega
    rw [if_neg h3, if_neg h4, if_neg h5, if_neg h6, if_neg h7]
    by_cases h8 : r = 42
    · rw [decide_eq_true (by omega), h8]; rfl
    · rw [decide_eq_false (by omega), beq_eq_false_iff_ne.2 h8]
theorem refSign_val (r : Int) : figureheadref13_Sign.f r = some (sgnK r) := by
  unfold figureheadref13_Sign.f sgnK
  repeat' split
  all_goals rfl
theorem sgn_range (r : Int) : sgnK r = 0 ∨ (2 ≤ sgnK r ∧ sgnK r ≤ 6) := by
  unfold sgnK
  repeat' split
  all_goals omega
def figureheadref13_Items.f (l : List S48) : Option (List S57 × Int × Int) := if l.length ≤ 1000000000 then some (itemsGo l []) else none
theorem R_moveN {α : Type} {d : Kd α} {e base : Nat} {W W' : World} {v : Value} {xs : List α} (h : d.R e W base (fun _ => True) v xs) (hm : ∀ k, k < W.heap.size → W'.heap[k]? = W.heap[k]?) : d.R e W' base (fun _ => True) v xs :=
  Kd.R_mono (Kd.R_move (Kd.R_bound h) (fun k hk => hm k hk.2.2.1)) (fun _ _ => trivial)

set_option maxHeartbeats 8000000 in
set_option maxRecDepth 1000000 in
theorem figureheadref13_Items.calls (A0 : Option Addr) (c0 : Nat) (l0 : List S48) (r1 : List S57) (r2 r3 : Int) (w : World) (hr0 : Kd.C k48 w A0 l0.length l0) (hc0 : l0.length ≤ c0) (h : figureheadref13_Items.f l0 = some (r1, r2, r3)) :
    Calls Try.prog 37 #[.slice A0 l0.length c0] w fun e w' => ∃ v0_ : Value, e = .returned (.tuple #[v0_, .agg #[.int .i64 r2, .int .i64 r3]]) ∧ Kd.R k57 57 w' w.heap.size (fun _ => True) v0_ r1 ∧ Below w.heap.size w w' := by
  unfold figureheadref13_Items.f at h
  by_cases hlen : l0.length ≤ 1000000000
  rotate_left
  · rw [if_neg hlen] at h; cases h
  rw [if_pos hlen] at h
  have HH := Lib.hid (Option.some.inj h)
  clear h
  obtain ⟨W1, hW1⟩ : ∃ W1, W1 = w.alloc (.cells #[.int .i64 0, .int .i64 0] 29) := ⟨_, rfl⟩
  have hF1 : W1.heap[w.heap.size]? = some (.cells #[.int .i64 0, .int .i64 0] 29) := by rw [hW1]; exact heap_alloc_new _ _
  have hlF := blk_lt hF1
  have hbw1 : Below w.heap.size w W1 := by rw [hW1]; exact (Below.refl _ w).alloc (Nat.le_refl _) _
  have HW1 := Lib.hid hW1
  clear hW1
  go_enter Try.func37, Try.ntmps37
  go_wp2
  go_loopw [4, 5] (fun v4 v10 wx => ∃ (i : Nat) (acc : List S57), v10 = .int .i64 i ∧ i ≤ l0.length ∧ Kd.R k57 57 wx W1.heap.size (fun _ => True) v4 acc ∧ Below W1.heap.size W1 wx ∧ Hid (itemsGo (l0.drop i) acc = (r1, r2, r3)) ∧ acc.length ≤ i) (fun v4 v10 wx => l0.length - (RowKit.intOf v10).toNat)
  case atStart => exact ⟨0, [], rfl, Nat.zero_le _, Kd.R_nil _ _ _ _ _, by rw [← HW1.out]; exact Below.refl _ W1, HH, by simp⟩
  case round =>
    obtain ⟨i, acc, rfl, hil, hR, hb1, hacc, hal⟩ := hrel
    have hbw : Below w.heap.size w wr := hbw1.trans (hb1.mono (Nat.le_of_lt hlF))
    have hsz := hbw.size
    have hF : wr.heap[w.heap.size]? = some (.cells #[.int .i64 0, .int .i64 0] 29) := (hb1.block _ hlF).trans hF1
    have hsz1 := hb1.size
    by_cases hi : i < l0.length
    · obtain ⟨x, hx⟩ := get_exG l0 i hi
      obtain ⟨bk, o, hA1, hbk, hcells⟩ := toks_at hr0 (fun e => by rw [e] at hi; simp at hi)
      have hia := fun W => idx_toks l0.length c0 i bk o A0 W hA1 hi
      have hc := hcells i x hx
      have hcx0 := (hbw.cell (p := ⟨bk, o + i * 3, none⟩) hbk).trans hc.1
      have hcx1 := (hbw.cell (p := ⟨bk, o + i * 3 + 1, none⟩) hbk).trans hc.2.1
      have hcx2 := (hbw.cell (p := ⟨bk, o + i * 3 + 2, none⟩) hbk).trans hc.2.2
      have hdr : l0.drop i = x :: l0.drop (i + 1) := by
        obtain ⟨h1, h2⟩ := List.getElem?_eq_some_iff.1 hx
        rw [← h2]; exact List.drop_eq_getElem_cons h1
      have hgo := hacc.out
      rw [hdr] at hgo
      simp only [itemsGo] at hgo
      clear hx hc hcells hA1 hdr hF1
      obtain ⟨q, b, at_⟩ := x
      simp only at hcx0 hcx1 hcx2
      have hit : ∀ z, itemTk ⟨q, b, at_⟩ = z → (match z with | none => (([] : List S57), (4 : Int), at_) | some a => itemsGo (l0.drop (i + 1)) (acc ++ [a])) = (r1, r2, r3) := fun z hz => by rw [← hz]; exact hgo
      clear hgo
      obtain ⟨sg, hsg⟩ : ∃ sg, sg = sgnK q := ⟨_, rfl⟩
      obtain ⟨mk, hmk⟩ : ∃ mk, mk = markB q := ⟨_, rfl⟩
      have HSG : Hid (figureheadref13_Sign.f q = some sg) := Lib.hid (by rw [hsg]; exact refSign_val q)
      have HMK : Hid (figureheadref13_Mark.f q = some mk) := Lib.hid (by rw [hmk]; exact refMark_val q)
      have hbk2 : bk < wr.heap.size := World.block_lt_of_cell? wr _ hcx0
      have hsr := sgn_range q
      rw [← hsg] at hsr
      cases b with
      | true =>
        have HG := Lib.hid (hit (some ⟨1, q⟩) (by unfold itemTk; rw [if_pos rfl]))
        clear hit hsg hmk HMK HSG hsr
        go_wp2_with (((with_reducible refine gate_builtin (b := .append) (xs := #[.tmp 42, .tmp 44]) rfl ?_); at_builtin; refine Kd.R_append k57 (w0 := W1) W1.heap.size rfl (.tmp 42) (.tmp 44) 24 57 (.agg #[.int .i64 0, .int .i32 0]) 16 rfl Try.underlying24 (by kernel_rfl) rfl (by decide) (by omega) u4 acc ⟨1, q⟩ [.int .i64 1, .int .i32 q] (fun _ => True) (fun _ => False) rfl (by simp [Act.eval]) ?aP (fun _ hk => hk.elim) ?aF ?aO ?aB ?aS ?aL ?_; (case aP => exact k57_mkM _ _ _ _); (case aB => exact (by repeat (first | (with_reducible first | exact hb1 | apply below_alloc | apply pw_below_drewN | apply below_drew1) | exact hb1))); (case aF => exact (fun _ _ => trivial)); (case aO => exact (R_staysA hR (by repeat (first | (with_reducible first | exact Below.refl _ _ | apply below_alloc | apply pw_below_drewN | apply below_drew1) | exact Below.refl _ _)))); (case aS => exact (below_size (by repeat (first | (with_reducible first | exact hb1 | apply below_alloc | apply pw_below_drewN | apply below_drew1) | exact hb1)))); (case aL => omega); intro v140 w10 ho hb hg hat; clear hg hat))
        go_roundw
        case rel => exact ⟨i + 1, acc ++ [⟨1, q⟩], by go_num, by omega, ho, hb, HG, by simp; omega⟩
        case measure => simp [RowKit.intOf]; omega
      | false =>
        by_cases hm : markB q = true
        · have hmt : mk = true := by rw [hmk, hm]
          have HG := hit none (by unfold itemTk; rw [if_neg (by simp), if_pos hm])
          obtain ⟨rfl, h2⟩ := Prod.mk.inj HG
          obtain ⟨rfl, rfl⟩ := Prod.mk.inj h2
          clear hit hsg hmk hm HG h2 hsr
          subst hmt
          go_wp2_with (go_at_call 47; (with_reducible refine (figureheadref13_Mark.calls q _ _ HMK.out).mono ?_); rintro e W4 ⟨rfl, d4⟩; have b4 := d4.below; clear d4; have hb4 := below_step (by repeat (first | (with_reducible first | exact hb1 | apply below_alloc | apply pw_below_drewN | apply below_drew1) | exact hb1)) b4; have hbw4 := below_step (by repeat (first | (with_reducible first | exact hbw | apply below_alloc | apply pw_below_drewN | apply below_drew1) | exact hbw)) b4; have hbr4 : Below wr.heap.size wr W4 := below_step (by repeat (first | (with_reducible first | exact Below.refl _ _ | apply below_alloc | apply pw_below_drewN | apply below_drew1) | exact Below.refl _ _)) b4; have hbk4 := heap_keeps b4 (heap_alloc_new wr _); have e0 : W4.cell? ⟨wr.heap.size, 0, none⟩ = some (.int .i64 1) := (blk_cell hbk4 0).trans rfl; have e1 : W4.cell? ⟨wr.heap.size, 1, none⟩ = some (.int .i32 q) := (blk_cell hbk4 1).trans rfl; have e0f := blk_frozen hbk4; have hsz4 := hb4.size)
          have hF6 : W4.heap[w.heap.size]? = some (.cells #[.int .i64 0, .int .i64 0] 29) := heap_keeps b4 (blk_alloc hF _)
          have f0 := (blk_cell hF6 0).trans rfl
          have f1 := (blk_cell hF6 1).trans rfl
          have ff := blk_frozen hF6
          have hcy2 : W4.cell? ⟨bk, o + i * 3 + 2, none⟩ = some (.int .i64 at_) := (hbr4.cell (p := ⟨bk, o + i * 3 + 2, none⟩) (World.block_lt_of_cell? wr _ hcx2)).trans hcx2
          go_region_law (fail)
          all_goals (
            go_wp2
            refine bodyPost_ret (results_tmp_rowA rfl _ _ w.heap.size 29 #[.int .i64 4, .int .i64 at_] (0, 0) _ rfl (blk_drew (blk_put (cs := #[.int .i64 4, .int .i64 0]) (blk_put hF6 0 (.int .i64 4) rfl) 1 (.int .i64 at_) rfl)) rfl rfl (by kernel_rfl)) rfl ⟨_, rfl, Kd.R_nil _ _ _ _ _, ?_⟩
            exact below_drew1 (below_set (below_set hbw4 (Nat.le_refl _)) (Nat.le_refl _)))
        · have hm0 : mk = false := by rw [hmk]; simpa using hm
          by_cases hs : sgnK q = 0
          · have hs0 : decide (0 < sg) = false := decide_eq_false (by omega)
            have HG := Lib.hid (hit (some ⟨1, q⟩) (by unfold itemTk; rw [if_neg (by simp), if_neg hm, if_pos hs]))
            clear hit hsg hmk hm hs
            subst hm0
            go_wp2_with (first | (go_at_call 47; (with_reducible refine (figureheadref13_Mark.calls q _ _ HMK.out).mono ?_); rintro e W4 ⟨rfl, d4⟩; have b4 := d4.below; clear d4; have hb4 := below_step (by repeat (first | (with_reducible first | exact hb1 | apply below_alloc | apply pw_below_drewN | apply below_drew1) | exact hb1)) b4; have hbw4 := below_step (by repeat (first | (with_reducible first | exact hbw | apply below_alloc | apply pw_below_drewN | apply below_drew1) | exact hbw)) b4; have hbr4 : Below wr.heap.size wr W4 := below_step (by repeat (first | (with_reducible first | exact Below.refl _ _ | apply below_alloc | apply pw_below_drewN | apply below_drew1) | exact Below.refl _ _)) b4; have hbk4 := heap_keeps b4 (heap_alloc_new wr _); have e0 : W4.cell? ⟨wr.heap.size, 0, none⟩ = some (.int .i64 1) := (blk_cell hbk4 0).trans rfl; have e1 : W4.cell? ⟨wr.heap.size, 1, none⟩ = some (.int .i32 q) := (blk_cell hbk4 1).trans rfl; have e0f := blk_frozen hbk4; have hsz4 := hb4.size) | (go_at_call 48; (with_reducible refine (figureheadref13_Sign.calls q sg _ HSG.out).mono ?_); rintro e W6 ⟨rfl, d6⟩; have b6 := d6.below; clear d6; have hb6 := below_step hb4 b6; have hbw6 := below_step hbw4 b6; have hbr6 := below_step hbr4 b6; have hbk6 := heap_keeps b6 hbk4; have d0 : W6.cell? ⟨wr.heap.size, 0, none⟩ = some (.int .i64 1) := (blk_cell hbk6 0).trans rfl; have d1 : W6.cell? ⟨wr.heap.size, 1, none⟩ = some (.int .i32 q) := (blk_cell hbk6 1).trans rfl; have d0f := blk_frozen hbk6; have hsz6 := hb6.size) | (((with_reducible refine gate_builtin (b := .append) (xs := #[.tmp 42, .tmp 44]) rfl ?_); at_builtin; refine Kd.R_append k57 (w0 := W1) W1.heap.size rfl (.tmp 42) (.tmp 44) 24 57 (.agg #[.int .i64 0, .int .i32 0]) 16 rfl Try.underlying24 (by kernel_rfl) rfl (by decide) (by omega) u4 acc ⟨1, q⟩ [.int .i64 1, .int .i32 q] (fun _ => True) (fun _ => False) rfl rfl ?aP (fun _ hk => hk.elim) ?aF ?aO ?aB ?aS ?aL ?_; (case aP => exact k57_mkM _ _ _ _); (case aB => exact hb6); (case aF => exact (fun _ _ => trivial)); (case aO => exact (R_moveN hR (fun k hk => hbr6.block k hk))); (case aS => exact hsz6); (case aL => omega); intro v140 w10 ho hb hg hat; clear hg hat)))
            go_roundw
            case rel => exact ⟨i + 1, acc ++ [⟨1, q⟩], by go_num, by omega, ho, hb, HG, by simp; omega⟩
            case measure => simp [RowKit.intOf]; omega
          · have hs0 : decide (0 < sg) = true := decide_eq_true (by omega)
            have HG := Lib.hid (hit (some ⟨sg, 0⟩) (by unfold itemTk; rw [if_neg (by simp), if_neg hm, if_neg hs, hsg]))
            clear hit hsg hmk hm hs
            subst hm0
            go_wp2_with (first | (go_at_call 47; (with_reducible refine (figureheadref13_Mark.calls q _ _ HMK.out).mono ?_); rintro e W4 ⟨rfl, d4⟩; have b4 := d4.below; clear d4; have hb4 := below_step (by repeat (first | (with_reducible first | exact hb1 | apply below_alloc | apply pw_below_drewN | apply below_drew1) | exact hb1)) b4; have hbw4 := below_step (by repeat (first | (with_reducible first | exact hbw | apply below_alloc | apply pw_below_drewN | apply below_drew1) | exact hbw)) b4; have hbr4 : Below wr.heap.size wr W4 := below_step (by repeat (first | (with_reducible first | exact Below.refl _ _ | apply below_alloc | apply pw_below_drewN | apply below_drew1) | exact Below.refl _ _)) b4; have hbk4 := heap_keeps b4 (heap_alloc_new wr _); have e0 : W4.cell? ⟨wr.heap.size, 0, none⟩ = some (.int .i64 1) := (blk_cell hbk4 0).trans rfl; have e1 : W4.cell? ⟨wr.heap.size, 1, none⟩ = some (.int .i32 q) := (blk_cell hbk4 1).trans rfl; have e0f := blk_frozen hbk4; have hsz4 := hb4.size) | (go_at_call 48; (with_reducible refine (figureheadref13_Sign.calls q sg _ HSG.out).mono ?_); rintro e W6 ⟨rfl, d6⟩; have b6 := d6.below; clear d6; have hb6 := below_step hb4 b6; have hbw6 := below_step hbw4 b6; have hbr6 := below_step hbr4 b6; have hbk6 := heap_keeps b6 hbk4; have d0 : W6.cell? ⟨wr.heap.size, 0, none⟩ = some (.int .i64 1) := (blk_cell hbk6 0).trans rfl; have d1 : W6.cell? ⟨wr.heap.size, 1, none⟩ = some (.int .i32 q) := (blk_cell hbk6 1).trans rfl; have d0f := blk_frozen hbk6; have hsz6 := hb6.size) | (((with_reducible refine gate_builtin (b := .append) (xs := #[.tmp 42, .tmp 44]) rfl ?_); at_builtin; refine Kd.R_append k57 (w0 := W1) W1.heap.size rfl (.tmp 42) (.tmp 44) 24 57 (.agg #[.int .i64 0, .int .i32 0]) 16 rfl Try.underlying24 (by kernel_rfl) rfl (by decide) (by omega) u4 acc ⟨sg, 0⟩ [.int .i64 sg, .int .i32 0] (fun _ => True) (fun _ => False) rfl (by simp [Act.eval]) ?aP (fun _ hk => hk.elim) ?aF ?aO ?aB ?aS ?aL ?_; (case aP => exact k57_mkM _ _ _ _); (case aB => exact (below_set (below_set hb6 hsz1) hsz1)); (case aF => exact (fun _ _ => trivial)); (case aO => exact (R_moveN hR (fun k hk => by rw [heap_setCell_other _ _ _ _ (by show k ≠ wr.heap.size; omega), heap_setCell_other _ _ _ _ (by show k ≠ wr.heap.size; omega)]; exact hbr6.block k hk))); (case aS => exact (by simpa using hsz6)); (case aL => omega); intro v140 w10 ho hb hg hat; clear hg hat)))
            go_roundw
            case rel => exact ⟨i + 1, acc ++ [⟨sg, 0⟩], by go_num, by omega, ho, hb, HG, by simp; omega⟩
            case measure => simp [RowKit.intOf]; omega
    · have hie : i = l0.length := by omega
      subst hie
      have hgo := hacc.out
      rw [List.drop_of_length_le (Nat.le_refl _)] at hgo
      simp only [itemsGo] at hgo
      obtain ⟨A4, c4, hv4⟩ : ∃ A4 c4, u4 = .slice A4 acc.length c4 := by
        obtain ⟨A4, c4, h⟩ := Kd.R_slice hR
        exact ⟨A4, c4, h⟩
      subst hv4
      have f0 := (blk_cell hF 0).trans rfl
      have f1 := (blk_cell hF 1).trans rfl
      have ff := blk_frozen hF
      clear hF1
      by_cases h40 : acc.length > 40
      · rw [if_pos h40] at hgo
        obtain ⟨rfl, h2⟩ := Prod.mk.inj hgo
        obtain ⟨rfl, rfl⟩ := Prod.mk.inj h2
        have h4 : decide ((40 : Int) < ((acc.length : Nat) : Int)) = true := decide_eq_true (by omega)
        clear hgo h2 h40 hal
        go_wp2
        refine bodyPost_ret (results_tmp_rowA rfl _ _ w.heap.size 29 #[.int .i64 8, .int .i64 0] (0, 0) _ rfl (blk_put (cs := #[.int .i64 8, .int .i64 0]) (blk_put hF 0 (.int .i64 8) rfl) 1 (.int .i64 0) rfl) rfl rfl (by kernel_rfl)) rfl ⟨_, rfl, Kd.R_nil _ _ _ _ _, ?_⟩
        exact below_set (below_set hbw (Nat.le_refl _)) (Nat.le_refl _)
      · rw [if_neg h40] at hgo
        obtain ⟨rfl, h2⟩ := Prod.mk.inj hgo
        obtain ⟨rfl, rfl⟩ := Prod.mk.inj h2
        have h4 : decide ((40 : Int) < ((acc.length : Nat) : Int)) = false := decide_eq_false (by omega)
        clear hgo h2 h40 hal
        go_wp2
        refine bodyPost_ret (results_tmp_rowA rfl _ _ w.heap.size 29 #[.int .i64 0, .int .i64 0] (0, 0) _ rfl (blk_put (cs := #[.int .i64 0, .int .i64 0]) (blk_put hF 0 (.int .i64 0) rfl) 1 (.int .i64 0) rfl) rfl rfl (by kernel_rfl)) rfl ⟨_, rfl, ?_, below_set (below_set hbw (Nat.le_refl _)) (Nat.le_refl _)⟩
        exact Kd.R_lower (R_otherA (R_otherA hR hlF _ _) hlF _ _) (Nat.le_of_lt hlF)
end Go.Proofs.Ytkgdpgoianimjaa.Print
