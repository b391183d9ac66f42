/- The reader of package number: counts. -/
import Derived.Test.YtgobcejjefgkcaaDoorNg
namespace Go.Proofs.YtgobcejjefgkcaaDoor.Print
open Go.RowKit Go.Proofs.YtgobcejjefgkcaaDoorW.PrintWords Go.Proofs.YtgobcejjefgkcaaDoorW.PrintLast Go.Proofs.YtgobcejjefgkcaaDoorW.PrintMore
set_option linter.unusedVariables false
set_option linter.unusedSimpArgs false

theorem L_app (x y : ByteArray) : N.L (x ++ y) = N.L x ++ N.L y := by simp [N.L, ByteArray.data_append]
def countsR (r : RD) : RD := if (64 : UInt8) ∈ N.L r.wh ++ N.L r.fr then sigR r else
  { r with mi := (N.sp N.dig ((N.L r.wh).dropWhile N.isH) : Int), mf := (N.sp N.dig (N.L r.fr) : Int), xf := (r.fr.size : Int), ma := if r.sc then (r.wh.size : Int) else r.ma, inc := mkB (N.incN (N.L r.wh) (N.L r.fr)) }
/-- No digits at all. -/
theorem counts_none (r : RD) (b : Nat) (w : World) (h : IsRd w b r) (hs1 : r.wh.size ≤ 1000000000) (hs2 : r.fr.size ≤ 1000000000) (h0 : N.L r.wh ++ N.L r.fr = []) :
    Calls Tryd.prog 21 #[.pointer (some ⟨b, 0, none⟩)] w fun e w' => e = .returned (.int .i64 4) ∧ Mid b w w' := by
  have hc0 : w.cell? ⟨b, 0, none⟩ = some (.string r.wh) := blk_cell h 0
  have hc1 : w.cell? ⟨b, 1, none⟩ = some (.string r.fr) := blk_cell h 1
  have z1 : ¬ (9223372036854775807 < r.wh.size + r.fr.size) := by omega
  have hem : (r.wh ++ r.fr).toList.isEmpty = true := by rw [isE_iff, L_app]; exact decide_eq_true h0
  clear h h0
  go_enter Tryd.func21, Tryd.ntmps21
  go_wp2
  go_region
  go_wp2
  go_ret
  exact ⟨rfl, (Mid.refl _ _).drew⟩
/-- With @. -/
theorem counts_sig (r : RD) (b : Nat) (w : World) (h : IsRd w b r) (hs1 : r.wh.size ≤ 1000000000) (hs2 : r.fr.size ≤ 1000000000) (hlow : ∀ c ∈ N.L r.wh, c.toNat < 128) (h0 : (64 : UInt8) ∈ N.L r.wh ++ N.L r.fr) :
    Calls Tryd.prog 21 #[.pointer (some ⟨b, 0, none⟩)] w fun e w' => e = .returned (.int .i64 (N.sigE r.pt (N.L r.wh))) ∧ Mid b w w' ∧ Then (N.sigE r.pt (N.L r.wh)) (IsRd w' b (sigR r)) := by
  have hc0 : w.cell? ⟨b, 0, none⟩ = some (.string r.wh) := blk_cell h 0
  have hc1 : w.cell? ⟨b, 1, none⟩ = some (.string r.fr) := blk_cell h 1
  have z1 : ¬ (9223372036854775807 < r.wh.size + r.fr.size) := by omega
  have hne : N.L r.wh ++ N.L r.fr ≠ [] := fun e => by rw [e] at h0; cases h0
  have hem : (r.wh ++ r.fr).toList.isEmpty = false := by rw [isE_iff, L_app]; exact decide_eq_false hne
  have hct : ∀ W, Calls Tryd.prog 42 #[.string (r.wh ++ r.fr), .string ⟨#[64]⟩] W fun e w' => e = .returned (.bool true) ∧ ∃ n, w' = W.drewN n := fun W => (contains_calls (r.wh ++ r.fr) 64 W).mono fun e w' ⟨he, hw⟩ => ⟨by rw [he, L_app, decide_eq_true h0], 0, hw⟩
  have hsg := fun W hW => significant_calls r b W hW hs1 hlow
  obtain ⟨rr, hrr⟩ : ∃ rr : RD, rr = sigR r := ⟨_, rfl⟩
  obtain ⟨E, hE⟩ : ∃ E, E = N.sigE r.pt (N.L r.wh) := ⟨_, rfl⟩
  rw [← hrr, ← hE]
  rw [← hrr, ← hE] at hsg
  have HH := Lib.hid h
  have HSG := Lib.hid hsg
  clear h h0 hne hrr hE hsg hlow
  go_enter Tryd.func21, Tryd.ntmps21
  go_wp2
  go_region
  go_wp2
  go_quiet ((go_at_call 42; (with_reducible refine (hct _).mono ?_); rintro e W5 ⟨rfl, ⟨nd, rfl⟩⟩; (first | exact ⟨rfl, _, World.drewN_drewN _ _ _⟩ | exact ⟨rfl, _, Eq.trans (World.drewN_drewN _ _ _) (congrArg (World.drewN _) (Nat.add_assoc _ _ _))⟩)))
  obtain ⟨W3, hW3⟩ : ∃ W3, W3 = w.drew.drewN nq := ⟨_, rfl⟩
  have HR3 : Hid (IsRd W3 b r) := Lib.hid (by rw [hW3]; exact blk_drewN (blk_drew HH.out) _)
  have HM3 : Hid (Mid b w W3) := Lib.hid (by rw [hW3]; exact (Mid.refl _ _).drew.drewN _)
  rw [← hW3]
  clear hW3 hc0 hc1
  go_wp2_with (go_at_call 44; (with_reducible refine (HSG.out _ HR3.out).mono ?_); rintro e W6 ⟨rfl, hm6, ht6⟩)
  go_ret
  exact ⟨rfl, HM3.out.trans hm6, ht6⟩
/-! ### digits and # -/
theorem set_nums {W : World} {b : Nat} {r : RD} (h : IsRd W b r) (x y z : Int) : IsRd (((W.setCell ⟨b, 10, none⟩ (.int .i64 x)).setCell ⟨b, 12, none⟩ (.int .i64 y)).setCell ⟨b, 13, none⟩ (.int .i64 z)) b { r with mi := x, mf := y, xf := z } := by
  rw [IsRd, blk_set (blk_set (blk_set h 10 _) 12 _) 13 _]
  simp [rdV]
theorem set_ma {W : World} {b : Nat} {r : RD} (h : IsRd W b r) (x : Int) : IsRd (W.setCell ⟨b, 11, none⟩ (.int .i64 x)) b { r with ma := x } := by
  rw [IsRd, blk_set h 11 _]
  simp [rdV]
theorem set_inc {W : World} {b : Nat} {r : RD} (h : IsRd W b r) (x : ByteArray) : IsRd (W.setCell ⟨b, 18, none⟩ (.string x)) b { r with inc := x } := by
  rw [IsRd, blk_set h 18 _]
  simp [rdV]
/-- The first half: both spans. -/
theorem spans_hd_held (w0 : World) (b : Nat) (r : RD) (al : Bool) (n0 n1 : Nat) (hs : r.wh.size ≤ 1000000000) (hal : al = (((N.L r.wh).dropWhile N.isH).dropWhile N.dig).isEmpty) (hn0 : n0 = N.sp N.isH (N.L r.wh)) (hn1 : n1 = N.sp N.dig ((N.L r.wh).dropWhile N.isH)) (k : Nat) (W : World) (hH : Hid (HeldF w0 b r ([] ++ [(k, 35)]) W)) :
    Calls Tryd.prog 34 #[.string r.wh, .slice (some ⟨W.heap.size, 0, none⟩) 2 2] (W.alloc (.cells #[.func (.func 50) #[] #[.pointer (some ⟨k, 0, none⟩)], .func (.func 37) #[] #[]] 58)) fun e w' =>
      ∃ (g cap : Nat) (cur : Array Value), e = .returned (.tuple #[.slice (some ⟨g, 0, none⟩) 2 cap, .bool al]) ∧ w'.heap[g]? = some (.cells cur 3 (0, 0)) ∧ cur[0]? = some (.int .i64 (n0 : Int)) ∧ cur[1]? = some (.int .i64 (n1 : Int)) ∧ w0.heap.size ≤ g ∧ IsRd w' b r ∧ Below w0.heap.size w0 w' ∧ w'.cell? ⟨b, 0, none⟩ = some (.string r.wh) := by
  obtain ⟨h1, h2, h3⟩ := hH.out
  refine (spans_hd r.wh k W (h3 (k, 35) (by simp)) hs).mono ?_
  rintro e w' ⟨g, cap, cur, rfl, q1, q2, q3, q4, q5⟩
  have hR : IsRd w' b r := heap_keeps q5 h1
  exact ⟨g, cap, cur, by rw [hal], q1, by rw [hn0]; exact q2, by rw [hn1]; exact q3, Nat.le_trans h2.size q4, hR, below_step h2 q5, blk_cell hR 0⟩
theorem spans_dh_held (w0 : World) (b : Nat) (r : RD) (al : Bool) (n0 n1 : Nat) (hs : r.fr.size ≤ 1000000000) (hal : al = (((N.L r.fr).dropWhile N.dig).dropWhile N.isH).isEmpty) (hn0 : n0 = N.sp N.dig (N.L r.fr)) (hn1 : n1 = N.sp N.isH ((N.L r.fr).dropWhile N.dig)) (k : Nat) (W : World) (hH : Hid (HeldF w0 b r ([] ++ [(k, 35)]) W)) :
    Calls Tryd.prog 34 #[.string r.fr, .slice (some ⟨W.heap.size, 0, none⟩) 2 2] (W.alloc (.cells #[.func (.func 37) #[] #[], .func (.func 50) #[] #[.pointer (some ⟨k, 0, none⟩)]] 58)) fun e w' =>
      ∃ (g cap : Nat) (cur : Array Value), e = .returned (.tuple #[.slice (some ⟨g, 0, none⟩) 2 cap, .bool al]) ∧ w'.heap[g]? = some (.cells cur 3 (0, 0)) ∧ cur[0]? = some (.int .i64 (n0 : Int)) ∧ cur[1]? = some (.int .i64 (n1 : Int)) ∧ w0.heap.size ≤ g ∧ IsRd w' b r ∧ Below w0.heap.size w0 w' ∧ w'.cell? ⟨b, 1, none⟩ = some (.string r.fr) := by
  obtain ⟨h1, h2, h3⟩ := hH.out
  refine (spans_dh r.fr k W (h3 (k, 35) (by simp)) hs).mono ?_
  rintro e w' ⟨g, cap, cur, rfl, q1, q2, q3, q4, q5⟩
  have hR : IsRd w' b r := heap_keeps q5 h1
  exact ⟨g, cap, cur, by rw [hal], q1, by rw [hn0]; exact q2, by rw [hn1]; exact q3, Nat.le_trans h2.size q4, hR, below_step h2 q5, blk_cell hR 1⟩
set_option maxHeartbeats 8000000 in
set_option maxRecDepth 1000000 in
theorem counts_bad (r : RD) (b : Nat) (w : World) (h : IsRd w b r) (hs1 : r.wh.size ≤ 1000000000) (hs2 : r.fr.size ≤ 1000000000) (hn : N.L r.wh ++ N.L r.fr ≠ []) (h0 : (64 : UInt8) ∉ N.L r.wh ++ N.L r.fr)
    (hb : (((N.L r.wh).dropWhile N.isH).dropWhile N.dig) ≠ [] ∨ (((N.L r.fr).dropWhile N.dig).dropWhile N.isH) ≠ []) :
    Calls Tryd.prog 21 #[.pointer (some ⟨b, 0, none⟩)] w fun e w' => e = .returned (.int .i64 4) ∧ Mid b w w' := by
  have hc0 : w.cell? ⟨b, 0, none⟩ = some (.string r.wh) := blk_cell h 0
  have hc1 : w.cell? ⟨b, 1, none⟩ = some (.string r.fr) := blk_cell h 1
  have z1 : ¬ (9223372036854775807 < r.wh.size + r.fr.size) := by omega
  have hem : (r.wh ++ r.fr).toList.isEmpty = false := by rw [isE_iff, L_app]; exact decide_eq_false hn
  have hct : ∀ W, Calls Tryd.prog 42 #[.string (r.wh ++ r.fr), .string ⟨#[64]⟩] W fun e w' => e = .returned (.bool false) ∧ ∃ n, w' = W.drewN n := fun W => (contains_calls (r.wh ++ r.fr) 64 W).mono fun e w' ⟨he, hw⟩ => ⟨by rw [he, L_app, decide_eq_false h0], 0, hw⟩
  obtain ⟨al, hal⟩ : ∃ al, al = (((N.L r.wh).dropWhile N.isH).dropWhile N.dig).isEmpty := ⟨_, rfl⟩
  obtain ⟨bl, hbl⟩ : ∃ bl, bl = (((N.L r.fr).dropWhile N.dig).dropWhile N.isH).isEmpty := ⟨_, rfl⟩
  have hab : al = false ∨ bl = false := by
    rcases hb with hb | hb
    · left; rw [hal]; cases hq : ((N.L r.wh).dropWhile N.isH).dropWhile N.dig with
      | nil => exact absurd hq hb
      | cons a t => rfl
    · right; rw [hbl]; cases hq : ((N.L r.fr).dropWhile N.dig).dropWhile N.isH with
      | nil => exact absurd hq hb
      | cons a t => rfl
  have HS1 := Lib.hid (fun w0 => spans_hd_held w0 b r al _ _ hs1 hal rfl rfl)
  have HS2 := Lib.hid (fun w0 => spans_dh_held w0 b r bl _ _ hs2 hbl rfl rfl)
  have HH := Lib.hid h
  clear h h0 hn hb hal hbl
  go_enter Tryd.func21, Tryd.ntmps21
  go_wp2
  go_region
  go_wp2
  go_quiet ((go_at_call 42; (with_reducible refine (hct _).mono ?_); rintro e W5 ⟨rfl, ⟨nd, rfl⟩⟩; (first | exact ⟨rfl, _, World.drewN_drewN _ _ _⟩ | exact ⟨rfl, _, Eq.trans (World.drewN_drewN _ _ _) (congrArg (World.drewN _) (Nat.add_assoc _ _ _))⟩)))
  obtain ⟨W3, hW3⟩ : ∃ W3, W3 = w.drew.drewN nq := ⟨_, rfl⟩
  have HR3 : Hid (IsRd W3 b r) := Lib.hid (by rw [hW3]; exact blk_drewN (blk_drew HH.out) _)
  have HM3 : Hid (Mid b w W3) := Lib.hid (by rw [hW3]; exact (Mid.refl _ _).drew.drewN _)
  rw [← hW3]
  clear hW3 hc0 hc1
  have hd3 : W3.cell? ⟨b, 0, none⟩ = some (.string r.wh) := blk_cell HR3.out 0
  have HF3 : Hid (HeldF W3 b r [] W3) := Lib.hid ⟨HR3.out, Below.refl _ _, fun x hx => by cases hx⟩
  go_wp2
  go_region_held3 (fun w' => w'.cell? ⟨b, 0, none⟩ = some (.string r.wh)) (first | go_keep | assumption)
    (first
      | (go_at_call 35; (with_reducible refine (one_held W3 b r _ _ _ (by first | assumption | exact held_drew HF3)).mono ?_); rintro e W4 ⟨k, rfl, hh4, d4, d41⟩)
      | (go_at_call 34; (with_reducible refine (HS1.out _ _ _ (by assumption)).mono ?_); rintro e W5 ⟨g, cap, cur, rfl, q1, q2, q3, q4, q5, q6, q7⟩))
  have HR5 := Lib.hid q5
  have hd5 : W5.cell? ⟨b, 1, none⟩ = some (.string r.fr) := blk_cell q5 1
  have HF5 : Hid (HeldF W5 b r [] W5) := Lib.hid ⟨q5, Below.refl _ _, fun x hx => by cases hx⟩
  have HM5 := Lib.hid (HM3.out.step q6)
  clear q1 q2 q3 q4 q5 q6 q7 hd3 d4 d41 hh4 HF3
  go_wp2
  go_region_held3 (fun w' => w'.cell? ⟨b, 1, none⟩ = some (.string r.fr)) (first | go_keep | assumption)
    (first
      | (go_at_call 35; (with_reducible refine (one_held W5 b r _ _ _ (by first | assumption | exact held_drew HF5)).mono ?_); rintro e W6 ⟨k, rfl, hh6, d6, d61⟩)
      | (go_at_call 34; (with_reducible refine (HS2.out _ _ _ (by assumption)).mono ?_); rintro e W7 ⟨g2, cap2, cur2, rfl, p1, p2, p3, p4, p5, p6, p7⟩))
  have HM7 := Lib.hid (HM5.out.step p6)
  clear p1 p2 p3 p4 p5 p6 p7 hd5 d6 d61 hh6 HF5
  rcases hab with rfl | rfl
  · go_wp2
    go_ret
    exact ⟨rfl, HM7.out⟩
  · cases al
    all_goals
      go_wp2
      go_ret
      exact ⟨rfl, HM7.out⟩
end Go.Proofs.YtgobcejjefgkcaaDoor.Print
