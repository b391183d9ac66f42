/- The reader of package number: counts. -/
import Derived.Test.YtgobcejjefgkcaaDoorNg
namespace Go.Proofs.YtgobcejjefgkcaaDoor.Print
open Go.RowKit Go.Proofs.YtgobcejjefgkcaaDoorW.PrintWords Go.Proofs.YtgobcejjefgkcaaDoorW.PrintLast Go.Proofs.YtgobcejjefgkcaaDoorW.PrintMore
set_option linter.unusedVariables false
set_option linter.unusedSimpArgs false

theorem L_app (x y : ByteArray) : N.L (x ++ y) = N.L x ++ N.L y := by simp [N.L, ByteArray.data_append]
def countsR (r : RD) : RD := if (64 : UInt8) ∈ N.L r.wh ++ N.L r.fr then sigR r else
  { r with mi := (N.sp N.dig ((N.L r.wh).dropWhile N.isH) : Int), mf := (N.sp N.dig (N.L r.fr) : Int), xf := (r.fr.size : Int), ma := if r.sc then (r.wh.size : Int) else r.ma, inc := mkB (N.incN (N.L r.wh) (N.L r.fr)) }
/-- No digits at all. -/
theorem counts_none (r : RD) (b : Nat) (w : World) (h : IsRd w b r) (hs1 : r.wh.size ≤ 1000000000) (hs2 : r.fr.size ≤ 1000000000) (h0 : N.L r.wh ++ N.L r.fr = []) :
    Calls Tryd.prog 21 #[.pointer (some ⟨b, 0, none⟩)] w fun e w' => e = .returned (.int .i64 4) ∧ Mid b w w' := by
  have hc0 : w.cell? ⟨b, 0, none⟩ = some (.string r.wh) := blk_cell h 0
  have hc1 : w.cell? ⟨b, 1, none⟩ = some (.string r.fr) := blk_cell h 1
  have z1 : ¬ (9223372036854775807 < r.wh.size + r.fr.size) := by omega
  have hem : (r.wh ++ r.fr).toList.isEmpty = true := by rw [isE_iff, L_app]; exact decide_eq_true h0
  clear h h0
  go_enter Tryd.func21, Tryd.ntmps21
  go_wp2
  go_region
  go_wp2
  go_ret
  exact ⟨rfl, (Mid.refl _ _).drew⟩
/-- With @. -/
theorem counts_sig (r : RD) (b : Nat) (w : World) (h : IsRd w b r) (hs1 : r.wh.size ≤ 1000000000) (hs2 : r.fr.size ≤ 1000000000) (hlow : ∀ c ∈ N.L r.wh, c.toNat < 128) (h0 : (64 : UInt8) ∈ N.L r.wh ++ N.L r.fr) :
    Calls Tryd.prog 21 #[.pointer (some ⟨b, 0, none⟩)] w fun e w' => e = .returned (.int .i64 (N.sigE r.pt (N.L r.wh))) ∧ Mid b w w' ∧ Then (N.sigE r.pt (N.L r.wh)) (IsRd w' b (sigR r)) := by
  have hc0 : w.cell? ⟨b, 0, none⟩ = some (.string r.wh) := blk_cell h 0
  have hc1 : w.cell? ⟨b, 1, none⟩ = some (.string r.fr) := blk_cell h 1
  have z1 : ¬ (9223372036854775807 < r.wh.size + r.fr.size) := by omega
  have hne : N.L r.wh ++ N.L r.fr ≠ [] := fun e => by rw [e] at h0; cases h0
  have hem : (r.wh ++ r.fr).toList.isEmpty = false := by rw [isE_iff, L_app]; exact decide_eq_false hne
  have hct : ∀ W, Calls Tryd.prog 42 #[.string (r.wh ++ r.fr), .string ⟨#[64]⟩] W fun e w' => e = .returned (.bool true) ∧ ∃ n, w' = W.drewN n := fun W => (contains_calls (r.wh ++ r.fr) 64 W).mono fun e w' ⟨he, hw⟩ => ⟨by rw [he, L_app, decide_eq_true h0], 0, hw⟩
  have hsg := fun W hW => significant_calls r b W hW hs1 hlow
  obtain ⟨rr, hrr⟩ : ∃ rr : RD, rr = sigR r := ⟨_, rfl⟩
  obtain ⟨E, hE⟩ : ∃ E, E = N.sigE r.pt (N.L r.wh) := ⟨_, rfl⟩
  rw [← hrr, ← hE]
  rw [← hrr, ← hE] at hsg
  have HH := Lib.hid h
  have HSG := Lib.hid hsg
  clear h h0 hne hrr hE hsg hlow
  go_enter Tryd.func21, Tryd.ntmps21
  go_wp2
  go_region
  go_wp2
  go_quiet ((go_at_call 42; (with_reducible refine (hct _).mono ?_); rintro e W5 ⟨rfl, ⟨nd, rfl⟩⟩; (first | exact ⟨rfl, _, World.drewN_drewN _ _ _⟩ | exact ⟨rfl, _, Eq.trans (World.drewN_drewN _ _ _) (congrArg (World.drewN _) (Nat.add_assoc _ _ _))⟩)))
  obtain ⟨W3, hW3⟩ : ∃ W3, W3 = w.drew.drewN nq := ⟨_, rfl⟩
  have HR3 : Hid (IsRd W3 b r) := Lib.hid (by rw [hW3]; exact blk_drewN (blk_drew HH.out) _)
  have HM3 : Hid (Mid b w W3) := Lib.hid (by rw [hW3]; exact (Mid.refl _ _).drew.drewN _)
  rw [← hW3]
  clear hW3 hc0 hc1
  go_wp2_with (go_at_call 44; (with_reducible refine (HSG.out _ HR3.out).mono ?_); rintro e W6 ⟨rfl, hm6, ht6⟩)
  go_ret
  exact ⟨rfl, HM3.out.trans hm6, ht6⟩
/-! ### digits and # -/
theorem set_nums {W : World} {b : Nat} {r : RD} (h : IsRd W b r) (x y z : Int) : IsRd (((W.setCell ⟨b, 10, none⟩ (.int .i64 x)).setCell ⟨b, 12, none⟩ (.int .i64 y)).setCell ⟨b, 13, none⟩ (.int .i64 z)) b { r with mi := x, mf := y, xf := z } := by
  rw [IsRd, blk_set (blk_set (blk_set h 10 _) 12 _) 13 _]
  simp [rdV]
theorem set_ma {W : World} {b : Nat} {r : RD} (h : IsRd W b r) (x : Int) : IsRd (W.setCell ⟨b, 11, none⟩ (.int .i64 x)) b { r with ma := x } := by
  rw [IsRd, blk_set h 11 _]
  simp [rdV]
theorem set_inc {W : World} {b : Nat} {r : RD} (h : IsRd W b r) (x : ByteArray) : IsRd (W.setCell ⟨b, 18, none⟩ (.string x)) b { r with inc := x } := by
  rw [IsRd, blk_set h 18 _]
  simp [rdV]
/-- The first half: both spans. -/
theorem spans_hd_held (w0 : World) (b : Nat) (r : RD) (al : Bool) (n0 n1 : Nat) (hs : r.wh.size ≤ 1000000000) (hal : al = (((N.L r.wh).dropWhile N.isH).dropWhile N.dig).isEmpty) (hn0 : n0 = N.sp N.isH (N.L r.wh)) (hn1 : n1 = N.sp N.dig ((N.L r.wh).dropWhile N.isH)) (k : Nat) (W : World) (hH : Hid (HeldF w0 b r ([] ++ [(k, 35)]) W)) :
    Calls Tryd.prog 34 #[.string r.wh, .slice (some ⟨W.heap.size, 0, none⟩) 2 2] (W.alloc (.cells #[.func (.func 50) #[] #[.pointer (some ⟨k, 0, none⟩)], .func (.func 37) #[] #[]] 58)) fun e w' =>
      ∃ (g cap : Nat) (cur : Array Value), e = .returned (.tuple #[.slice (some ⟨g, 0, none⟩) 2 cap, .bool al]) ∧ w'.heap[g]? = some (.cells cur 3 (0, 0)) ∧ cur[0]? = some (.int .i64 (n0 : Int)) ∧ cur[1]? = some (.int .i64 (n1 : Int)) ∧ w0.heap.size ≤ g ∧ IsRd w' b r ∧ Below w0.heap.size w0 w' ∧ w'.cell? ⟨b, 0, none⟩ = some (.string r.wh) := by
  obtain ⟨h1, h2, h3⟩ := hH.out
  refine (spans_hd r.wh k W (h3 (k, 35) (by simp)) hs).mono ?_
  rintro e w' ⟨g, cap, cur, rfl, q1, q2, q3, q4, q5⟩
  have hR : IsRd w' b r := heap_keeps q5 h1
  exact ⟨g, cap, cur, by rw [hal], q1, by rw [hn0]; exact q2, by rw [hn1]; exact q3, Nat.le_trans h2.size q4, hR, below_step h2 q5, blk_cell hR 0⟩
theorem spans_dh_held (w0 : World) (b : Nat) (r : RD) (al : Bool) (n0 n1 : Nat) (hs : r.fr.size ≤ 1000000000) (hal : al = (((N.L r.fr).dropWhile N.dig).dropWhile N.isH).isEmpty) (hn0 : n0 = N.sp N.dig (N.L r.fr)) (hn1 : n1 = N.sp N.isH ((N.L r.fr).dropWhile N.dig)) (k : Nat) (W : World) (hH : Hid (HeldF w0 b r ([] ++ [(k, 35)]) W)) :
    Calls Tryd.prog 34 #[.string r.fr, .slice (some ⟨W.heap.size, 0, none⟩) 2 2] (W.alloc (.cells #[.func (.func 37) #[] #[], .func (.func 50) #[] #[.pointer (some ⟨k, 0, none⟩)]] 58)) fun e w' =>
      ∃ (g cap : Nat) (cur : Array Value), e = .returned (.tuple #[.slice (some ⟨g, 0, none⟩) 2 cap, .bool al]) ∧ w'.heap[g]? = some (.cells cur 3 (0, 0)) ∧ cur[0]? = some (.int .i64 (n0 : Int)) ∧ cur[1]? = some (.int .i64 (n1 : Int)) ∧ w0.heap.size ≤ g ∧ IsRd w' b r ∧ Below w0.heap.size w0 w' ∧ w'.cell? ⟨b, 1, none⟩ = some (.string r.fr) := by
  obtain ⟨h1, h2, h3⟩ := hH.out
  refine (spans_dh r.fr k W (h3 (k, 35) (by simp)) hs).mono ?_
  rintro e w' ⟨g, cap, cur, rfl, q1, q2, q3, q4, q5⟩
  have hR : IsRd w' b r := heap_keeps q5 h1
  exact ⟨g, cap, cur, by rw [hal], q1, by rw [hn0]; exact q2, by rw [hn1]; exact q3, Nat.le_trans h2.size q4, hR, below_step h2 q5, blk_cell hR 1⟩
set_option maxHeartbeats 8000000 in
set_option maxRecDepth 1000000 in
theorem counts_bad (r : RD) (b : Nat) (w : World) (h : IsRd w b r) (hs1 : r.wh.size ≤ 1000000000) (hs2 : r.fr.size ≤ 1000000000) (hn : N.L r.wh ++ N.L r.fr ≠ []) (h0 : (64 : UInt8) ∉ N.L r.wh ++ N.L r.fr)
    (hb : (((N.L r.wh).dropWhile N.isH).dropWhile N.dig) ≠ [] ∨ (((N.L r.fr).dropWhile N.dig).dropWhile N.isH) ≠ []) :
    Calls Tryd.prog 21 #[.pointer (some ⟨b, 0, none⟩)] w fun e w' => e = .returned (.int .i64 4) ∧ Mid b w w' := by
  have hc0 : w.cell? ⟨b, 0, none⟩ = some (.string r.wh) := blk_cell h 0
  have hc1 : w.cell? ⟨b, 1, none⟩ = some (.string r.fr) := blk_cell h 1
  have z1 : ¬ (9223372036854775807 < r.wh.size + r.fr.size) := by omega
  have hem : (r.wh ++ r.fr).toList.isEmpty = false := by rw [isE_iff, L_app]; exact decide_eq_false hn
  have hct : ∀ W, Calls Tryd.prog 42 #[.string (r.wh ++ r.fr), .string ⟨#[64]⟩] W fun e w' => e = .returned (.bool false) ∧ ∃ n, w' = W.drewN n := fun W => (contains_calls (r.wh ++ r.fr) 64 W).mono fun e w' ⟨he, hw⟩ => ⟨by rw [he, L_app, decide_eq_false h0], 0, hw⟩
  obtain ⟨al, hal⟩ : ∃ al, al = (((N.L r.wh).dropWhile N.isH).dropWhile N.dig).isEmpty := ⟨_, rfl⟩
  obtain ⟨bl, hbl⟩ : ∃ bl, bl = (((N.L r.fr).dropWhile N.dig).dropWhile N.isH).isEmpty := ⟨_, rfl⟩
  have hab : al = false ∨ bl = false := by
    rcases hb with hb | hb
    · left; rw [hal]; cases hq : ((N.L r.wh).dropWhile N.isH).dropWhile N.dig with
      | nil => exact absurd hq hb
      | cons a t => rfl
    · right; rw [hbl]; cases hq : ((N.L r.fr).dropWhile N.dig).dropWhile N.isH with
      | nil => exact absurd hq hb
      | cons a t => rfl
  have HS1 := Lib.hid (fun w0 => spans_hd_held w0 b r al _ _ hs1 hal rfl rfl)
  have HS2 := Lib.hid (fun w0 => spans_dh_held w0 b r bl _ _ hs2 hbl rfl rfl)
  have HH := Lib.hid h
  clear h h0 hn hb hal hbl
  go_enter Tryd.func21, Tryd.ntmps21
  go_wp2
  go_region
  go_wp2
  go_quiet ((go_at_call 42; (with_reducible refine (hct _).mono ?_); rintro e W5 ⟨rfl, ⟨nd, rfl⟩⟩; (first | exact ⟨rfl, _, World.drewN_drewN _ _ _⟩ | exact ⟨rfl, _, Eq.trans (World.drewN_drewN _ _ _) (congrArg (World.drewN _) (Nat.add_assoc _ _ _))⟩)))
  obtain ⟨W3, hW3⟩ : ∃ W3, W3 = w.drew.drewN nq := ⟨_, rfl⟩
  have HR3 : Hid (IsRd W3 b r) := Lib.hid (by rw [hW3]; exact blk_drewN (blk_drew HH.out) _)
  have HM3 : Hid (Mid b w W3) := Lib.hid (by rw [hW3]; exact (Mid.refl _ _).drew.drewN _)
  rw [← hW3]
  clear hW3 hc0 hc1
  have hd3 : W3.cell? ⟨b, 0, none⟩ = some (.string r.wh) := blk_cell HR3.out 0
  have HF3 : Hid (HeldF W3 b r [] W3) := Lib.hid ⟨HR3.out, Below.refl _ _, fun x hx => by cases hx⟩
  go_wp2
  go_region_held3 (fun w' => w'.cell? ⟨b, 0, none⟩ = some (.string r.wh)) (first | go_keep | assumption)
    (first
      | (go_at_call 35; (with_reducible refine (one_held W3 b r _ _ _ (by first | assumption | exact held_drew HF3)).mono ?_); rintro e W4 ⟨k, rfl, hh4, d4, d41⟩)
      | (go_at_call 34; (with_reducible refine (HS1.out _ _ _ (by assumption)).mono ?_); rintro e W5 ⟨g, cap, cur, rfl, q1, q2, q3, q4, q5, q6, q7⟩))
  have HR5 := Lib.hid q5
  have hd5 : W5.cell? ⟨b, 1, none⟩ = some (.string r.fr) := blk_cell q5 1
  have HF5 : Hid (HeldF W5 b r [] W5) := Lib.hid ⟨q5, Below.refl _ _, fun x hx => by cases hx⟩
  have HM5 := Lib.hid (HM3.out.step q6)
  clear q1 q2 q3 q4 q5 q6 q7 hd3 d4 d41 hh4 HF3
  go_wp2
  go_region_held3 (fun w' => w'.cell? ⟨b, 1, none⟩ = some (.string r.fr)) (first | go_keep | assumption)
    (first
      | (go_at_call 35; (with_reducible refine (one_held W5 b r _ _ _ (by first | assumption | exact held_drew HF5)).mono ?_); rintro e W6 ⟨k, rfl, hh6, d6, d61⟩)
      | (go_at_call 34; (with_reducible refine (HS2.out _ _ _ (by assumption)).mono ?_); rintro e W7 ⟨g2, cap2, cur2, rfl, p1, p2, p3, p4, p5, p6, p7⟩))
  have HM7 := Lib.hid (HM5.out.step p6)
  clear p1 p2 p3 p4 p5 p6 p7 hd5 d6 d61 hh6 HF5
  rcases hab with rfl | rfl
  · go_wp2
    go_ret
    exact ⟨rfl, HM7.out⟩
  · cases al
    all_goals
      go_wp2
      go_ret
      exact ⟨rfl, HM7.out⟩
end Go.Proofs.YtgobcejjefgkcaaDoor.Print
/- The reader of package number: counts of digits and #. -/
namespace Go.Proofs.YtgobcejjefgkcaaDoor.Print
open Go.RowKit Go.Proofs.YtgobcejjefgkcaaDoorW.PrintWords Go.Proofs.YtgobcejjefgkcaaDoorW.PrintLast Go.Proofs.YtgobcejjefgkcaaDoorW.PrintMore
set_option linter.unusedVariables false
set_option linter.unusedSimpArgs false

def digR (r : RD) : RD := { r with mi := (N.sp N.dig ((N.L r.wh).dropWhile N.isH) : Int), mf := (N.sp N.dig (N.L r.fr) : Int), xf := (r.fr.size : Int), ma := if r.sc then (r.wh.size : Int) else r.ma, inc := mkB (N.incN (N.L r.wh) (N.L r.fr)) }
def digErr (r : RD) : Int := if N.incN (N.L r.wh) (N.L r.fr) ≠ [] ∧ (0 < N.sp N.isH ((N.L r.fr).dropWhile N.dig) ∨ r.sc = true) then 6 else 0
theorem L_ext (s : ByteArray) (i j : Nat) : N.L (s.extract i j) = ((N.L s).drop i).take (j - i) := Lib.extract_data s i j
theorem trim_calls (x : ByteArray) (W : World) : Calls Tryd.prog 45 #[.string x, .string ⟨#[48]⟩] W fun e w' => e = .returned (.string (mkB ((N.L x).dropWhile N.is0))) ∧ w' = W := Tryd.strings_TrimLeft_one x 48 (by decide) W
set_option maxHeartbeats 8000000 in
set_option maxRecDepth 1000000 in
theorem counts_good (r : RD) (b : Nat) (w : World) (h : IsRd w b r) (hs1 : r.wh.size ≤ 1000000000) (hs2 : r.fr.size ≤ 1000000000) (hn : N.L r.wh ++ N.L r.fr ≠ []) (h0 : (64 : UInt8) ∉ N.L r.wh ++ N.L r.fr)
    (hb1 : (((N.L r.wh).dropWhile N.isH).dropWhile N.dig) = []) (hb2 : (((N.L r.fr).dropWhile N.dig).dropWhile N.isH) = []) :
    Calls Tryd.prog 21 #[.pointer (some ⟨b, 0, none⟩)] w fun e w' => e = .returned (.int .i64 (digErr r)) ∧ Mid b w w' ∧ IsRd w' b (digR r) := by
  have hc0 : w.cell? ⟨b, 0, none⟩ = some (.string r.wh) := blk_cell h 0
  have hc1 : w.cell? ⟨b, 1, none⟩ = some (.string r.fr) := blk_cell h 1
  have z1 : ¬ (9223372036854775807 < r.wh.size + r.fr.size) := by omega
  have hem : (r.wh ++ r.fr).toList.isEmpty = false := by rw [isE_iff, L_app]; exact decide_eq_false hn
  have hct : ∀ W, Calls Tryd.prog 42 #[.string (r.wh ++ r.fr), .string ⟨#[64]⟩] W fun e w' => e = .returned (.bool false) ∧ ∃ n, w' = W.drewN n := fun W => (contains_calls (r.wh ++ r.fr) 64 W).mono fun e w' ⟨he, hw⟩ => ⟨by rw [he, L_app, decide_eq_false h0], 0, hw⟩
  obtain ⟨n0, hn0⟩ : ∃ n0, n0 = N.sp N.isH (N.L r.wh) := ⟨_, rfl⟩
  obtain ⟨n1, hn1⟩ : ∃ n1, n1 = N.sp N.dig ((N.L r.wh).dropWhile N.isH) := ⟨_, rfl⟩
  obtain ⟨m0, hm0⟩ : ∃ m0, m0 = N.sp N.dig (N.L r.fr) := ⟨_, rfl⟩
  obtain ⟨m1, hm1⟩ : ∃ m1, m1 = N.sp N.isH ((N.L r.fr).dropWhile N.dig) := ⟨_, rfl⟩
  have l0 : n0 ≤ r.wh.size := by rw [hn0, ← N.L_len]; exact N.sp_le _ _
  have l2 : m0 ≤ r.fr.size := by rw [hm0, ← N.L_len]; exact N.sp_le _ _
  have HS1 := Lib.hid (fun w0 => spans_hd_held w0 b r true n0 n1 hs1 (by rw [hb1]; rfl) hn0 hn1)
  have HS2 := Lib.hid (fun w0 => spans_dh_held w0 b r true m0 m1 hs2 (by rw [hb2]; rfl) hm0 hm1)
  obtain ⟨dg, hdg⟩ : ∃ dg, dg = r.wh.extract n0 r.wh.size ++ r.fr.extract 0 m0 := ⟨_, rfl⟩
  have hinc : mkB ((N.L dg).dropWhile N.is0) = mkB (N.incN (N.L r.wh) (N.L r.fr)) := by
    unfold N.incN
    rw [hdg, L_app, N.L_extD, L_ext, Nat.sub_zero, List.drop_zero, hn0, N.drop_sp, hm0, N.take_sp]
  have htl := fun W => trim_calls dg W
  obtain ⟨ic, hic⟩ : ∃ ic, ic = mkB (N.incN (N.L r.wh) (N.L r.fr)) := ⟨_, rfl⟩
  rw [hinc, ← hic] at htl
  have hice : ic.toList.isEmpty = decide (N.incN (N.L r.wh) (N.L r.fr) = []) := by rw [isE_iff, hic, L_mkB]
  obtain ⟨ie, hie⟩ : ∃ ie, ie = decide (N.incN (N.L r.wh) (N.L r.fr) = []) := ⟨_, rfl⟩
  have hie2 : (N.incN (N.L r.wh) (N.L r.fr) ≠ []) ↔ ie = false := by rw [hie, decide_eq_false_iff_not]
  rw [← hie] at hice
  obtain ⟨rr, hrr⟩ : ∃ rr : RD, rr = digR r := ⟨_, rfl⟩
  rw [← hrr]
  unfold digR at hrr
  rw [← hn1, ← hm0, ← hic] at hrr
  have HRR := Lib.hid hrr
  obtain ⟨E, hE⟩ : ∃ E, E = digErr r := ⟨_, rfl⟩
  rw [← hE]
  have HE : Hid (E = (if ie = false ∧ (0 < m1 ∨ r.sc = true) then 6 else 0)) := Lib.hid (by rw [hE]; unfold digErr; rw [← hm1]; simp only [hie2])
  have HDG := Lib.hid hdg
  have HTL := Lib.hid htl
  have HH := Lib.hid h
  have hlt := blk_lt h
  have e1 : (r.wh.extract n0 r.wh.size).size = r.wh.size - n0 := by rw [ByteArray.size_extract]; omega
  have e2 : (r.fr.extract 0 m0).size = m0 := by rw [ByteArray.size_extract]; omega
  have z2 : ¬ (9223372036854775807 < r.wh.size - n0 + m0) := by omega
  have z3 : ¬ (9223372036854775807 < (r.wh.extract n0 r.wh.size).size + (r.fr.extract 0 m0).size) := by rw [e1, e2]; exact z2
  clear h h0 hn hb1 hb2 hn0 hn1 hm0 hm1 hdg hinc htl hic hie hie2 hrr e1 e2 hE
  go_enter Tryd.func21, Tryd.ntmps21
  go_wp2
  go_region
  go_wp2
  go_quiet ((go_at_call 42; (with_reducible refine (hct _).mono ?_); rintro e W5 ⟨rfl, ⟨nd, rfl⟩⟩; (first | exact ⟨rfl, _, World.drewN_drewN _ _ _⟩ | exact ⟨rfl, _, Eq.trans (World.drewN_drewN _ _ _) (congrArg (World.drewN _) (Nat.add_assoc _ _ _))⟩)))
  obtain ⟨W3, hW3⟩ : ∃ W3, W3 = w.drew.drewN nq := ⟨_, rfl⟩
  have HR3 : Hid (IsRd W3 b r) := Lib.hid (by rw [hW3]; exact blk_drewN (blk_drew HH.out) _)
  have HM3 : Hid (Mid b w W3) := Lib.hid (by rw [hW3]; exact (Mid.refl _ _).drew.drewN _)
  have hl3 : b < W3.heap.size := blk_lt HR3.out
  rw [← hW3]
  clear hW3 hc0 hc1
  have hd3 : W3.cell? ⟨b, 0, none⟩ = some (.string r.wh) := blk_cell HR3.out 0
  have HF3 : Hid (HeldF W3 b r [] W3) := Lib.hid ⟨HR3.out, Below.refl _ _, fun x hx => by cases hx⟩
  go_wp2
  go_region_held3 (fun w' => w'.cell? ⟨b, 0, none⟩ = some (.string r.wh)) (first | go_keep | assumption)
    (first
      | (go_at_call 35; (with_reducible refine (one_held W3 b r _ _ _ (by first | assumption | exact held_drew HF3)).mono ?_); rintro e W4 ⟨k, rfl, hh4, d4, d41⟩)
      | (go_at_call 34; (with_reducible refine (HS1.out _ _ _ (by assumption)).mono ?_); rintro e W5 ⟨g, cap, cur, rfl, q1, q2, q3, q4, q5, q6, q7⟩))
  have HR5 := Lib.hid q5
  have hd5 : W5.cell? ⟨b, 1, none⟩ = some (.string r.fr) := blk_cell q5 1
  have HF5 : Hid (HeldF W5 b r [] W5) := Lib.hid ⟨q5, Below.refl _ _, fun x hx => by cases hx⟩
  have HM5 := Lib.hid (HM3.out.step q6)
  have HQ1 := Lib.hid q1
  have HQ2 := Lib.hid q2
  have HQ3 := Lib.hid q3
  have hgb : g ≠ b := by omega
  clear q1 q2 q3 q4 q5 q6 q7 hd3 d4 d41 hh4 HF3
  go_wp2
  go_region_held3 (fun w' => w'.cell? ⟨b, 1, none⟩ = some (.string r.fr)) (first | go_keep | assumption)
    (first
      | (go_at_call 35; (with_reducible refine (one_held W5 b r _ _ _ (by first | assumption | exact held_drew HF5)).mono ?_); rintro e W6 ⟨k, rfl, hh6, d6, d61⟩)
      | (go_at_call 34; (with_reducible refine (HS2.out _ _ _ (by assumption)).mono ?_); rintro e W7 ⟨g2, cap2, cur2, rfl, p1, p2, p3, p4, p5, p6, p7⟩))
  have HM7 := Lib.hid (HM5.out.step p6)
  have hgl : g < W5.heap.size := blk_lt HQ1.out
  have hbl : b < W5.heap.size := blk_lt HR5.out
  have hg2b : g2 ≠ b := by omega
  have hg7 := (p6.block g hgl).trans HQ1.out
  have hHG := Lib.hid hg7
  have hHP := Lib.hid p1
  have hw0 := (blk_cell hg7 0).trans HQ2.out
  have HQQ0 := Lib.hid HQ2.out
  have hw1 := (blk_cell hg7 1).trans HQ3.out
  have hv0 := (blk_cell p1 0).trans p2
  have HV1 := Lib.hid p3
  have HV0 := Lib.hid p2
  have HR7 := Lib.hid p5
  have hrf := blk_frozen p5
  have hk1 : W7.cell? ⟨b, 1, none⟩ = some (.string r.fr) := blk_cell p5 1
  have hk10 : W7.cell? ⟨b, 10, none⟩ = some (.int .i64 r.mi) := blk_cell p5 10
  have hk12 : W7.cell? ⟨b, 12, none⟩ = some (.int .i64 r.mf) := blk_cell p5 12
  have hk13 : W7.cell? ⟨b, 13, none⟩ = some (.int .i64 r.xf) := blk_cell p5 13
  have hi1 := fun W => idx_ints 2 cap 1 g W (by omega)
  have hj0 := fun W => idx_ints 2 cap2 0 g2 W (by omega)
  clear p1 p2 p3 p4 p5 p6 p7 hd5 d6 d61 hh6 HF5 hg7
  go_wp2
  go_region
  obtain ⟨W8, hW8⟩ : ∃ W8, W8 = (((W7.setCell ⟨b, 10, none⟩ (.int .i64 (n1 : Int))).setCell ⟨b, 12, none⟩ (.int .i64 (m0 : Int))).setCell ⟨b, 13, none⟩ (.int .i64 (r.fr.size : Int))).drew := ⟨_, rfl⟩
  rw [← hW8]
  obtain ⟨r1, hr1⟩ : ∃ r1 : RD, r1 = { r with mi := (n1 : Int), mf := (m0 : Int), xf := (r.fr.size : Int) } := ⟨_, rfl⟩
  have HR8 : Hid (IsRd W8 b r1) := Lib.hid (by rw [hW8, hr1]; exact blk_drew (set_nums HR7.out _ _ _))
  have HM8 : Hid (Mid b w W8) := Lib.hid (by rw [hW8]; exact (((HM7.out.set _ _).set _ _).set _ _).drew)
  have HG8 : Hid (W8.heap[g]? = some (.cells cur 3 (0, 0))) := Lib.hid (by rw [hW8]; exact blk_drew (blk_far (blk_far (blk_far hHG.out hgb _) hgb _) hgb _))
  have HP8 : Hid (W8.heap[g2]? = some (.cells cur2 3 (0, 0))) := Lib.hid (by rw [hW8]; exact blk_drew (blk_far (blk_far (blk_far hHP.out hg2b _) hg2b _) hg2b _))
  have s4 : W8.cell? ⟨b, 4, none⟩ = some (.bool r.sc) := (blk_cell HR8.out 4).trans (by rw [hr1]; rfl)
  have s0 : W8.cell? ⟨b, 0, none⟩ = some (.string r.wh) := (blk_cell HR8.out 0).trans (by rw [hr1]; rfl)
  have s11 : W8.cell? ⟨b, 11, none⟩ = some (.int .i64 r.ma) := (blk_cell HR8.out 11).trans (by rw [hr1]; rfl)
  have hrf8 := blk_frozen HR8.out
  have HR1 := Lib.hid hr1
  clear hW8 hr1 hk1 hk10 hk12 hk13 hrf hw0 hw1 hv0 hi1 HM7 HR7 HM5 HR5 HQ1 HQ2 HQ3 hHG hHP
  obtain ⟨sc, hsc⟩ : ∃ sc, sc = r.sc := ⟨_, rfl⟩
  have HSC := Lib.hid hsc
  rw [← hsc] at s4
  clear hsc
  have hi0 := fun W => idx_ints 2 cap 0 g W (by omega)
  have hj1 := fun W => idx_ints 2 cap2 1 g2 W (by omega)
  cases sc with
  | true =>
    go_wp2
    obtain ⟨W9, hW9⟩ : ∃ W9, W9 = W8.setCell ⟨b, 11, none⟩ (.int .i64 (r.wh.size : Int)) := ⟨_, rfl⟩
    rw [← hW9]
    obtain ⟨r2, hr2⟩ : ∃ r2 : RD, r2 = { r1 with ma := (r.wh.size : Int) } := ⟨_, rfl⟩
    have HR9 : Hid (IsRd W9 b r2) := Lib.hid (by rw [hW9, hr2]; exact set_ma HR8.out _)
    have HM9 : Hid (Mid b w W9) := Lib.hid (by rw [hW9]; exact HM8.out.set _ _)
    have HG9 : Hid (W9.heap[g]? = some (.cells cur 3 (0, 0))) := Lib.hid (by rw [hW9]; exact blk_far HG8.out hgb _)
    have HP9 : Hid (W9.heap[g2]? = some (.cells cur2 3 (0, 0))) := Lib.hid (by rw [hW9]; exact blk_far HP8.out hg2b _)
    have HR2 : Hid (r2 = { r with mi := (n1 : Int), mf := (m0 : Int), xf := (r.fr.size : Int), ma := (r.wh.size : Int) }) := Lib.hid (by rw [hr2, HR1.out])
    clear hW9 hr2
    have t0 : W9.cell? ⟨b, 0, none⟩ = some (.string r.wh) := (blk_cell HR9.out 0).trans (by rw [HR2.out]; rfl)
    have t1 : W9.cell? ⟨b, 1, none⟩ = some (.string r.fr) := (blk_cell HR9.out 1).trans (by rw [HR2.out]; rfl)
    have u0 := (blk_cell HG9.out 0).trans HQQ0.out
    have u1 := (blk_cell HP9.out 0).trans HV0.out
    clear s0 s4 s11 hrf8
    go_region
    obtain ⟨W10, hW10⟩ : ∃ W10, W10 = W9.drew := ⟨_, rfl⟩
    have HR10 : Hid (IsRd W10 b r2) := Lib.hid (by rw [hW10]; exact blk_drew HR9.out)
    have HM10 : Hid (Mid b w W10) := Lib.hid (by rw [hW10]; exact HM9.out.drew)
    have HP10 : Hid (W10.heap[g2]? = some (.cells cur2 3 (0, 0))) := Lib.hid (by rw [hW10]; exact blk_drew HP9.out)
    rw [← hW10, ← HDG.out]
    clear hW10 t0 t1 u0 u1
    have hrf10 := blk_frozen HR10.out
    have x18 : W10.cell? ⟨b, 18, none⟩ = some (.string r.inc) := (blk_cell HR10.out 18).trans (by rw [HR2.out]; rfl)
    have x4 : W10.cell? ⟨b, 4, none⟩ = some (.bool true) := (blk_cell HR10.out 4).trans (by rw [HR2.out, HSC.out]; rfl)
    have y1 := (blk_cell HP10.out 1).trans HV1.out
    have hcellP : (W10.setCell ⟨b, 18, none⟩ (.string ic)).cell? ⟨g2, 1, none⟩ = some (.int .i64 (m1 : Int)) := (blk_cell (blk_far HP10.out hg2b _) 1).trans HV1.out
    have hcell18 : (W10.setCell ⟨b, 18, none⟩ (.string ic)).cell? ⟨b, 18, none⟩ = some (.string ic) := (blk_cell (set_inc HR10.out ic) 18).trans rfl
    have hcell4 : (W10.setCell ⟨b, 18, none⟩ (.string ic)).cell? ⟨b, 4, none⟩ = some (.bool true) := (blk_cell (set_inc HR10.out ic) 4).trans (by rw [HR2.out, HSC.out]; rfl)
    have HFIN : Hid (IsRd (W10.setCell ⟨b, 18, none⟩ (.string ic)) b rr) := Lib.hid (by rw [HRR.out, if_pos HSC.out.symm]; have := set_inc HR10.out ic; rw [HR2.out] at this; exact this)
    have HMF : Hid (Mid b w (W10.setCell ⟨b, 18, none⟩ (.string ic))) := Lib.hid (HM10.out.set _ _)
    have hmc : m1 = 0 ∨ (decide ((0 : Int) < (m1 : Int)) = true ∧ ¬ m1 = 0 ∧ 0 < m1) := by
      rcases Nat.eq_zero_or_pos m1 with e | e
      · exact .inl e
      · exact .inr ⟨decide_eq_true (by omega), by omega, e⟩
    rcases hmc with rfl | ⟨hmc1, hmc2, hmc3⟩ <;> cases ie
    all_goals
      have HE2 := HE.out
      simp [← HSC.out] at HE2
      try rw [if_pos hmc3] at HE2
      subst HE2
      go_wp2_with (go_at_call 45; (with_reducible refine (HTL.out _).mono ?_); rintro e W11 ⟨rfl, rfl⟩)
      go_ret
      exact ⟨rfl, HMF.out, HFIN.out⟩
  | false =>
    go_wp2
    obtain ⟨W9, hW9⟩ : ∃ W9, W9 = W8 := ⟨_, rfl⟩
    rw [← hW9]
    obtain ⟨r2, hr2⟩ : ∃ r2 : RD, r2 = r1 := ⟨_, rfl⟩
    have HR9 : Hid (IsRd W9 b r2) := Lib.hid (by rw [hW9, hr2]; exact HR8.out)
    have HM9 : Hid (Mid b w W9) := Lib.hid (by rw [hW9]; exact HM8.out)
    have HG9 : Hid (W9.heap[g]? = some (.cells cur 3 (0, 0))) := Lib.hid (by rw [hW9]; exact HG8.out)
    have HP9 : Hid (W9.heap[g2]? = some (.cells cur2 3 (0, 0))) := Lib.hid (by rw [hW9]; exact HP8.out)
    have HR2 : Hid (r2 = { r with mi := (n1 : Int), mf := (m0 : Int), xf := (r.fr.size : Int), ma := r.ma }) := Lib.hid (by rw [hr2, HR1.out])
    clear hW9 hr2
    have t0 : W9.cell? ⟨b, 0, none⟩ = some (.string r.wh) := (blk_cell HR9.out 0).trans (by rw [HR2.out]; rfl)
    have t1 : W9.cell? ⟨b, 1, none⟩ = some (.string r.fr) := (blk_cell HR9.out 1).trans (by rw [HR2.out]; rfl)
    have u0 := (blk_cell HG9.out 0).trans HQQ0.out
    have u1 := (blk_cell HP9.out 0).trans HV0.out
    clear s0 s4 s11 hrf8
    go_region
    obtain ⟨W10, hW10⟩ : ∃ W10, W10 = W9.drew := ⟨_, rfl⟩
    have HR10 : Hid (IsRd W10 b r2) := Lib.hid (by rw [hW10]; exact blk_drew HR9.out)
    have HM10 : Hid (Mid b w W10) := Lib.hid (by rw [hW10]; exact HM9.out.drew)
    have HP10 : Hid (W10.heap[g2]? = some (.cells cur2 3 (0, 0))) := Lib.hid (by rw [hW10]; exact blk_drew HP9.out)
    rw [← hW10, ← HDG.out]
    clear hW10 t0 t1 u0 u1
    have hrf10 := blk_frozen HR10.out
    have x18 : W10.cell? ⟨b, 18, none⟩ = some (.string r.inc) := (blk_cell HR10.out 18).trans (by rw [HR2.out]; rfl)
    have x4 : W10.cell? ⟨b, 4, none⟩ = some (.bool false) := (blk_cell HR10.out 4).trans (by rw [HR2.out, HSC.out]; rfl)
    have y1 := (blk_cell HP10.out 1).trans HV1.out
    have hcellP : (W10.setCell ⟨b, 18, none⟩ (.string ic)).cell? ⟨g2, 1, none⟩ = some (.int .i64 (m1 : Int)) := (blk_cell (blk_far HP10.out hg2b _) 1).trans HV1.out
    have hcell18 : (W10.setCell ⟨b, 18, none⟩ (.string ic)).cell? ⟨b, 18, none⟩ = some (.string ic) := (blk_cell (set_inc HR10.out ic) 18).trans rfl
    have hcell4 : (W10.setCell ⟨b, 18, none⟩ (.string ic)).cell? ⟨b, 4, none⟩ = some (.bool false) := (blk_cell (set_inc HR10.out ic) 4).trans (by rw [HR2.out, HSC.out]; rfl)
    have HFIN : Hid (IsRd (W10.setCell ⟨b, 18, none⟩ (.string ic)) b rr) := Lib.hid (by rw [HRR.out, if_neg (by rw [← HSC.out]; simp)]; have := set_inc HR10.out ic; rw [HR2.out] at this; exact this)
    have HMF : Hid (Mid b w (W10.setCell ⟨b, 18, none⟩ (.string ic))) := Lib.hid (HM10.out.set _ _)
    have hmc : m1 = 0 ∨ (decide ((0 : Int) < (m1 : Int)) = true ∧ ¬ m1 = 0 ∧ 0 < m1) := by
      rcases Nat.eq_zero_or_pos m1 with e | e
      · exact .inl e
      · exact .inr ⟨decide_eq_true (by omega), by omega, e⟩
    rcases hmc with rfl | ⟨hmc1, hmc2, hmc3⟩ <;> cases ie
    all_goals
      have HE2 := HE.out
      simp [← HSC.out] at HE2
      try rw [if_pos hmc3] at HE2
      subst HE2
      go_wp2_with (go_at_call 45; (with_reducible refine (HTL.out _).mono ?_); rintro e W11 ⟨rfl, rfl⟩)
      go_ret
      exact ⟨rfl, HMF.out, HFIN.out⟩
end Go.Proofs.YtgobcejjefgkcaaDoor.Print
/- The reader of package number: mixed; counts as a whole. -/
namespace Go.Proofs.YtgobcejjefgkcaaDoor.Print
open Go.RowKit Go.Proofs.YtgobcejjefgkcaaDoorW.PrintWords Go.Proofs.YtgobcejjefgkcaaDoorW.PrintLast Go.Proofs.YtgobcejjefgkcaaDoorW.PrintMore
set_option linter.unusedVariables false
set_option linter.unusedSimpArgs false

theorem counts_calls (r : RD) (b : Nat) (w : World) (h : IsRd w b r) (hs1 : r.wh.size ≤ 1000000000) (hs2 : r.fr.size ≤ 1000000000) (hlow : ∀ c ∈ N.L r.wh, c.toNat < 128) :
    Calls Tryd.prog 21 #[.pointer (some ⟨b, 0, none⟩)] w fun e w' => e = .returned (.int .i64 (N.countsE r.pt r.sc (N.L r.wh) (N.L r.fr))) ∧ Mid b w w' ∧ Then (N.countsE r.pt r.sc (N.L r.wh) (N.L r.fr)) (IsRd w' b (countsR r)) := by
  unfold N.countsE countsR
  by_cases h1 : N.L r.wh ++ N.L r.fr = []
  · rw [if_pos h1]
    exact (counts_none r b w h hs1 hs2 h1).mono fun e w' ⟨he, hm⟩ => ⟨he, hm, fun h0 => absurd h0 (by decide)⟩
  rw [if_neg h1]
  by_cases h2 : (64 : UInt8) ∈ N.L r.wh ++ N.L r.fr
  · rw [if_pos h2, if_pos h2]
    exact counts_sig r b w h hs1 hs2 hlow h2
  rw [if_neg h2, if_neg h2]
  unfold N.digE
  by_cases h3 : (((N.L r.wh).dropWhile N.isH).dropWhile N.dig) ≠ [] ∨ (((N.L r.fr).dropWhile N.dig).dropWhile N.isH) ≠ []
  · rw [if_pos h3]
    exact (counts_bad r b w h hs1 hs2 h1 h2 h3).mono fun e w' ⟨he, hm⟩ => ⟨he, hm, fun h0 => absurd h0 (by decide)⟩
  · rw [if_neg h3]
    simp only [not_or, ne_eq, Decidable.not_not] at h3
    exact (counts_good r b w h hs1 hs2 h1 h2 h3.1 h3.2).mono fun e w' ⟨he, hm, hr⟩ => ⟨he, hm, fun _ => hr⟩

/-! ### mixed -/
def mixedZ (r : RD) : Int :=
  if r.sc = true ∧ (0 < r.pr ∨ 0 < r.ms ∧ (N.L r.wh).head? = some 35) then 6
  else if 40 < max r.mi (max r.ma (max r.xf (max r.xs (max r.pr (max r.se (r.inc.size : Int)))))) then 8 else 0
def mx2 (x y : Int) : Int := if y > x then y else x
theorem fold_max (P : Program) : ∀ (l : List Int) (x : Int) (w : World), ((l.map (Value.int .i64)).foldlM Builtin.max2 (.int .i64 x)).run P w = .ok (.int .i64 (l.foldl mx2 x)) w
  | [], x, w => by simp [List.foldlM]
  | y :: l, x, w => by
    have ih := fold_max P l (mx2 x y) w
    unfold mx2 at ih ⊢
    simp only [List.map_cons, List.foldlM_cons, List.foldl_cons, Builtin.max2]
    simpa using ih
theorem run_max7 (P : Program) (ts : Array TypeId) (t : TypeId) (x1 x2 x3 x4 x5 x6 x7 : Int) (w : World) : (Builtin.max_ ts t #[.int .i64 x1, .int .i64 x2, .int .i64 x3, .int .i64 x4, .int .i64 x5, .int .i64 x6, .int .i64 x7]).run P w = .ok (.int .i64 ([x2, x3, x4, x5, x6, x7].foldl mx2 x1)) w :=
  fold_max P [x2, x3, x4, x5, x6, x7] x1 w
theorem fold_max_lt : ∀ (l : List Int) (x : Int), 40 < l.foldl mx2 x ↔ 40 < x ∨ ∃ y ∈ l, 40 < y
  | [], x => by simp
  | y :: l, x => by
    rw [List.foldl_cons, fold_max_lt l (mx2 x y)]
    have : 40 < mx2 x y ↔ 40 < x ∨ 40 < y := by unfold mx2; split <;> omega
    rw [this]
    simp [or_assoc]
set_option maxHeartbeats 8000000 in
set_option maxRecDepth 1000000 in
theorem mixed_calls (r : RD) (b : Nat) (w : World) (h : IsRd w b r) (hwh : 0 < r.ms → 0 < r.wh.size) :
    Calls Tryd.prog 22 #[.pointer (some ⟨b, 0, none⟩)] w fun e w' => e = .returned (.int .i64 (mixedZ r)) ∧ Mid b w w' ∧ IsRd w' b r := by
  have hc0 : w.cell? ⟨b, 0, none⟩ = some (.string r.wh) := blk_cell h 0
  have hc4 : w.cell? ⟨b, 4, none⟩ = some (.bool r.sc) := blk_cell h 4
  have hc10 : w.cell? ⟨b, 10, none⟩ = some (.int .i64 r.mi) := blk_cell h 10
  have hc11 : w.cell? ⟨b, 11, none⟩ = some (.int .i64 r.ma) := blk_cell h 11
  have hc13 : w.cell? ⟨b, 13, none⟩ = some (.int .i64 r.xf) := blk_cell h 13
  have hc14 : w.cell? ⟨b, 14, none⟩ = some (.int .i64 r.ms) := blk_cell h 14
  have hc15 : w.cell? ⟨b, 15, none⟩ = some (.int .i64 r.xs) := blk_cell h 15
  have hc16 : w.cell? ⟨b, 16, none⟩ = some (.int .i64 r.pr) := blk_cell h 16
  have hc17 : w.cell? ⟨b, 17, none⟩ = some (.int .i64 r.se) := blk_cell h 17
  have hc18 : w.cell? ⟨b, 18, none⟩ = some (.string r.inc) := blk_cell h 18
  have hlt := blk_lt h
  obtain ⟨E, hE⟩ : ∃ E, E = mixedZ r := ⟨_, rfl⟩
  rw [← hE]
  unfold mixedZ at hE
  have HH := Lib.hid h
  have HE := Lib.hid hE
  have HW := Lib.hid hwh
  clear h hE hwh
  obtain ⟨wh, fr, ex, pt, sc, mi, ma, mf, xf, ms, xs, pr, se, inc, ps, me, pp⟩ := r
  simp only at hc0 hc4 hc10 hc11 hc13 hc14 hc15 hc16 hc17 hc18
  by_cases hbad : sc = true ∧ (0 < pr ∨ 0 < ms ∧ (N.L wh).head? = some 35)
  · obtain rfl : E = 6 := HE.out.trans (if_pos hbad)
    obtain ⟨rfl, hbad⟩ := hbad
    by_cases hp : 0 < pr
    · have k1 : decide ((0 : Int) < pr) = true := decide_eq_true hp
      clear hbad hp
      go_enter Tryd.func22, Tryd.ntmps22
      go_wp2
      go_ret
      exact ⟨rfl, Mid.refl _ _, HH.out⟩
    · obtain ⟨hm, hh⟩ := hbad.resolve_left hp
      have k1 : decide ((0 : Int) < pr) = false := decide_eq_false hp
      have k2 : decide ((0 : Int) < ms) = true := decide_eq_true hm
      have hz := HW.out hm
      simp only at hz
      have k3 : (((wh[0]'hz).toNat : Int) == 35) = true := by
        have : (wh[0]'hz) = 35 := by
          rw [List.head?_eq_getElem?] at hh
          exact (List.getElem?_eq_some_iff.1 hh).2
        rw [this]; rfl
      clear hbad hp hm hh
      go_enter Tryd.func22, Tryd.ntmps22
      go_wp2
      go_ret
      exact ⟨rfl, Mid.refl _ _, HH.out⟩
  · have hE2 := HE.out.trans (if_neg hbad)
    simp only at hE2
    have HE2 := Lib.hid hE2
    clear hE2
    have hmx := fun ts t w => run_max7 Tryd.prog ts t mi ma xf xs pr se (inc.size : Int) w
    obtain ⟨M, hM⟩ : ∃ M, M = [ma, xf, xs, pr, se, (inc.size : Int)].foldl mx2 mi := ⟨_, rfl⟩
    rw [← hM] at hmx
    have hMM : (40 < max mi (max ma (max xf (max xs (max pr (max se (inc.size : Int))))))) ↔ 40 < M := by
      rw [hM, fold_max_lt]
      simp only [List.mem_cons, List.not_mem_nil, or_false, exists_eq_or_imp, exists_eq_left]
      omega
    obtain ⟨z, hz⟩ : ∃ z, z = decide ((40 : Int) < M) := ⟨_, rfl⟩
    have HE3 : Hid (E = if z = true then 8 else 0) := Lib.hid (by rw [HE2.out, hz]; simp only [hMM, decide_eq_true_eq])
    have hz2 := hz.symm
    have HB := Lib.hid hbad
    clear hM hMM hz hbad
    cases sc with
    | false =>
      go_enter Tryd.func22, Tryd.ntmps22
      go_wp2
      go_region
      cases z
      all_goals
        obtain rfl := HE3.out
        go_wp2
        go_ret
        exact ⟨rfl, (Mid.refl _ _).drew, blk_drew HH.out⟩
    | true =>
      have k1 : decide ((0 : Int) < pr) = false := decide_eq_false (fun hp => HB.out ⟨rfl, .inl hp⟩)
      by_cases hm : 0 < ms
      · have k2 : decide ((0 : Int) < ms) = true := decide_eq_true hm
        have hzz := HW.out hm
        simp only at hzz
        have k3 : (((wh[0]'hzz).toNat : Int) == 35) = false := by
          refine beq_eq_false_iff_ne.2 (fun he => HB.out ⟨rfl, .inr ⟨hm, ?_⟩⟩)
          rw [List.head?_eq_getElem?, List.getElem?_eq_getElem (by rw [N.L_len]; exact hzz)]
          have : (wh[0]'hzz) = 35 := UInt8.toNat_inj.1 (by have : ((wh[0]'hzz).toNat : Int) = 35 := he; show (wh[0]'hzz).toNat = 35; omega)
          exact congrArg some this
        clear hm
        go_enter Tryd.func22, Tryd.ntmps22
        go_wp2
        go_region
        cases z
        all_goals
          obtain rfl := HE3.out
          go_wp2
          go_ret
          exact ⟨rfl, (Mid.refl _ _).drew, blk_drew HH.out⟩
      · have k2 : decide ((0 : Int) < ms) = false := decide_eq_false hm
        clear hm
        go_enter Tryd.func22, Tryd.ntmps22
        go_wp2
        go_region
        cases z
        all_goals
          obtain rfl := HE3.out
          go_wp2
          go_ret
          exact ⟨rfl, (Mid.refl _ _).drew, blk_drew HH.out⟩
end Go.Proofs.YtgobcejjefgkcaaDoor.Print
