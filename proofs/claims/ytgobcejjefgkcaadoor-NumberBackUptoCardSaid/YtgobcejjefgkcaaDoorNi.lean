/- The reader of package number: counts of digits and #. -/
import Derived.Test.YtgobcejjefgkcaaDoorNh
namespace Go.Proofs.YtgobcejjefgkcaaDoor.Print
open Go.RowKit Go.Proofs.YtgobcejjefgkcaaDoorW.PrintWords Go.Proofs.YtgobcejjefgkcaaDoorW.PrintLast Go.Proofs.YtgobcejjefgkcaaDoorW.PrintMore
set_option linter.unusedVariables false
set_option linter.unusedSimpArgs false

def digR (r : RD) : RD := { r with mi := (N.sp N.dig ((N.L r.wh).dropWhile N.isH) : Int), mf := (N.sp N.dig (N.L r.fr) : Int), xf := (r.fr.size : Int), ma := if r.sc then (r.wh.size : Int) else r.ma, inc := mkB (N.incN (N.L r.wh) (N.L r.fr)) }
def digErr (r : RD) : Int := if N.incN (N.L r.wh) (N.L r.fr) ≠ [] ∧ (0 < N.sp N.isH ((N.L r.fr).dropWhile N.dig) ∨ r.sc = true) then 6 else 0
theorem L_ext (s : ByteArray) (i j : Nat) : N.L (s.extract i j) = ((N.L s).drop i).take (j - i) := Lib.extract_data s i j
theorem trim_calls (x : ByteArray) (W : World) : Calls Tryd.prog 45 #[.string x, .string ⟨#[48]⟩] W fun e w' => e = .returned (.string (mkB ((N.L x).dropWhile N.is0))) ∧ w' = W := Tryd.strings_TrimLeft_one x 48 (by decide) W
set_option maxHeartbeats 8000000 in
set_option maxRecDepth 1000000 in
theorem counts_good (r : RD) (b : Nat) (w : World) (h : IsRd w b r) (hs1 : r.wh.size ≤ 1000000000) (hs2 : r.fr.size ≤ 1000000000) (hn : N.L r.wh ++ N.L r.fr ≠ []) (h0 : (64 : UInt8) ∉ N.L r.wh ++ N.L r.fr)
    (hb1 : (((N.L r.wh).dropWhile N.isH).dropWhile N.dig) = []) (hb2 : (((N.L r.fr).dropWhile N.dig).dropWhile N.isH) = []) :
    Calls Tryd.prog 21 #[.pointer (some ⟨b, 0, none⟩)] w fun e w' => e = .returned (.int .i64 (digErr r)) ∧ Mid b w w' ∧ IsRd w' b (digR r) := by
  have hc0 : w.cell? ⟨b, 0, none⟩ = some (.string r.wh) := blk_cell h 0
  have hc1 : w.cell? ⟨b, 1, none⟩ = some (.string r.fr) := blk_cell h 1
  have z1 : ¬ (9223372036854775807 < r.wh.size + r.fr.size) := by omega
  have hem : (r.wh ++ r.fr).toList.isEmpty = false := by rw [isE_iff, L_app]; exact decide_eq_false hn
  have hct : ∀ W, Calls Tryd.prog 42 #[.string (r.wh ++ r.fr), .string ⟨#[64]⟩] W fun e w' => e = .returned (.bool false) ∧ ∃ n, w' = W.drewN n := fun W => (contains_calls (r.wh ++ r.fr) 64 W).mono fun e w' ⟨he, hw⟩ => ⟨by rw [he, L_app, decide_eq_false h0], 0, hw⟩
  obtain ⟨n0, hn0⟩ : ∃ n0, n0 = N.sp N.isH (N.L r.wh) := ⟨_, rfl⟩
  obtain ⟨n1, hn1⟩ : ∃ n1, n1 = N.sp N.dig ((N.L r.wh).dropWhile N.isH) := ⟨_, rfl⟩
  obtain ⟨m0, hm0⟩ : ∃ m0, m0 = N.sp N.dig (N.L r.fr) := ⟨_, rfl⟩
  obtain ⟨m1, hm1⟩ : ∃ m1, m1 = N.sp N.isH ((N.L r.fr).dropWhile N.dig) := ⟨_, rfl⟩
  have l0 : n0 ≤ r.wh.size := by rw [hn0, ← N.L_len]; exact N.sp_le _ _
  have l2 : m0 ≤ r.fr.size := by rw [hm0, ← N.L_len]; exact N.sp_le _ _
  have HS1 := Lib.hid (fun w0 => spans_hd_held w0 b r true n0 n1 hs1 (by rw [hb1]; rfl) hn0 hn1)
  have HS2 := Lib.hid (fun w0 => spans_dh_held w0 b r true m0 m1 hs2 (by rw [hb2]; rfl) hm0 hm1)
  obtain ⟨dg, hdg⟩ : ∃ dg, dg = r.wh.extract n0 r.wh.size ++ r.fr.extract 0 m0 := ⟨_, rfl⟩
  have hinc : mkB ((N.L dg).dropWhile N.is0) = mkB (N.incN (N.L r.wh) (N.L r.fr)) := by
    unfold N.incN
    rw [hdg, L_app, N.L_extD, L_ext, Nat.sub_zero, List.drop_zero, hn0, N.drop_sp, hm0, N.take_sp]
  have htl := fun W => trim_calls dg W
  obtain ⟨ic, hic⟩ : ∃ ic, ic = mkB (N.incN (N.L r.wh) (N.L r.fr)) := ⟨_, rfl⟩
  rw [hinc, ← hic] at htl
  have hice : ic.toList.isEmpty = decide (N.incN (N.L r.wh) (N.L r.fr) = []) := by rw [isE_iff, hic, L_mkB]
  obtain ⟨ie, hie⟩ : ∃ ie, ie = decide (N.incN (N.L r.wh) (N.L r.fr) = []) := ⟨_, rfl⟩
  have hie2 : (N.incN (N.L r.wh) (N.L r.fr) ≠ []) ↔ ie = false := by rw [hie, decide_eq_false_iff_not]
  rw [← hie] at hice
  obtain ⟨rr, hrr⟩ : ∃ rr : RD, rr = digR r := ⟨_, rfl⟩
  rw [← hrr]
  unfold digR at hrr
  rw [← hn1, ← hm0, ← hic] at hrr
  have HRR := Lib.hid hrr
  obtain ⟨E, hE⟩ : ∃ E, E = digErr r := ⟨_, rfl⟩
  rw [← hE]
  have HE : Hid (E = (if ie = false ∧ (0 < m1 ∨ r.sc = true) then 6 else 0)) := Lib.hid (by rw [hE]; unfold digErr; rw [← hm1]; simp only [hie2])
  have HDG := Lib.hid hdg
  have HTL := Lib.hid htl
  have HH := Lib.hid h
  have hlt := blk_lt h
  have e1 : (r.wh.extract n0 r.wh.size).size = r.wh.size - n0 := by rw [ByteArray.size_extract]; omega
  have e2 : (r.fr.extract 0 m0).size = m0 := by rw [ByteArray.size_extract]; omega
  have z2 : ¬ (9223372036854775807 < r.wh.size - n0 + m0) := by omega
  have z3 : ¬ (9223372036854775807 < (r.wh.extract n0 r.wh.size).size + (r.fr.extract 0 m0).size) := by rw [e1, e2]; exact z2
  clear h h0 hn hb1 hb2 hn0 hn1 hm0 hm1 hdg hinc htl hic hie hie2 hrr e1 e2 hE
  go_enter Tryd.func21, Tryd.ntmps21
  go_wp2
  go_region
  go_wp2
  go_quiet ((go_at_call 42; (with_reducible refine (hct _).mono ?_); rintro e W5 ⟨rfl, ⟨nd, rfl⟩⟩; (first | exact ⟨rfl, _, World.drewN_drewN _ _ _⟩ | exact ⟨rfl, _, Eq.trans (World.drewN_drewN _ _ _) (congrArg (World.drewN _) (Nat.add_assoc _ _ _))⟩)))
  obtain ⟨W3, hW3⟩ : ∃ W3, W3 = w.drew.drewN nq := ⟨_, rfl⟩
  have HR3 : Hid (IsRd W3 b r) := Lib.hid (by rw [hW3]; exact blk_drewN (blk_drew HH.out) _)
  have HM3 : Hid (Mid b w W3) := Lib.hid (by rw [hW3]; exact (Mid.refl _ _).drew.drewN _)
  have hl3 : b < W3.heap.size := blk_lt HR3.out
  rw [← hW3]
  clear hW3 hc0 hc1
  have hd3 : W3.cell? ⟨b, 0, none⟩ = some (.string r.wh) := blk_cell HR3.out 0
  have HF3 : Hid (HeldF W3 b r [] W3) := Lib.hid ⟨HR3.out, Below.refl _ _, fun x hx => by cases hx⟩
  go_wp2
  go_region_held3 (fun w' => w'.cell? ⟨b, 0, none⟩ = some (.string r.wh)) (first | go_keep | assumption)
    (first
      | (go_at_call 35; (with_reducible refine (one_held W3 b r _ _ _ (by first | assumption | exact held_drew HF3)).mono ?_); rintro e W4 ⟨k, rfl, hh4, d4, d41⟩)
      | (go_at_call 34; (with_reducible refine (HS1.out _ _ _ (by assumption)).mono ?_); rintro e W5 ⟨g, cap, cur, rfl, q1, q2, q3, q4, q5, q6, q7⟩))
  have HR5 := Lib.hid q5
  have hd5 : W5.cell? ⟨b, 1, none⟩ = some (.string r.fr) := blk_cell q5 1
  have HF5 : Hid (HeldF W5 b r [] W5) := Lib.hid ⟨q5, Below.refl _ _, fun x hx => by cases hx⟩
  have HM5 := Lib.hid (HM3.out.step q6)
  have HQ1 := Lib.hid q1
  have HQ2 := Lib.hid q2
  have HQ3 := Lib.hid q3
  have hgb : g ≠ b := by omega
  clear q1 q2 q3 q4 q5 q6 q7 hd3 d4 d41 hh4 HF3
  go_wp2
  go_region_held3 (fun w' => w'.cell? ⟨b, 1, none⟩ = some (.string r.fr)) (first | go_keep | assumption)
    (first
      | (go_at_call 35; (with_reducible refine (one_held W5 b r _ _ _ (by first | assumption | exact held_drew HF5)).mono ?_); rintro e W6 ⟨k, rfl, hh6, d6, d61⟩)
      | (go_at_call 34; (with_reducible refine (HS2.out _ _ _ (by assumption)).mono ?_); rintro e W7 ⟨g2, cap2, cur2, rfl, p1, p2, p3, p4, p5, p6, p7⟩))
  have HM7 := Lib.hid (HM5.out.step p6)
  have hgl : g < W5.heap.size := blk_lt HQ1.out
  have hbl : b < W5.heap.size := blk_lt HR5.out
  have hg2b : g2 ≠ b := by omega
  have hg7 := (p6.block g hgl).trans HQ1.out
  have hHG := Lib.hid hg7
  have hHP := Lib.hid p1
  have hw0 := (blk_cell hg7 0).trans HQ2.out
  have HQQ0 := Lib.hid HQ2.out
  have hw1 := (blk_cell hg7 1).trans HQ3.out
  have hv0 := (blk_cell p1 0).trans p2
  have HV1 := Lib.hid p3
  have HV0 := Lib.hid p2
  have HR7 := Lib.hid p5
  have hrf := blk_frozen p5
  have hk1 : W7.cell? ⟨b, 1, none⟩ = some (.string r.fr) := blk_cell p5 1
  have hk10 : W7.cell? ⟨b, 10, none⟩ = some (.int .i64 r.mi) := blk_cell p5 10
  have hk12 : W7.cell? ⟨b, 12, none⟩ = some (.int .i64 r.mf) := blk_cell p5 12
  have hk13 : W7.cell? ⟨b, 13, none⟩ = some (.int .i64 r.xf) := blk_cell p5 13
  have hi1 := fun W => idx_ints 2 cap 1 g W (by omega)
  have hj0 := fun W => idx_ints 2 cap2 0 g2 W (by omega)
  clear p1 p2 p3 p4 p5 p6 p7 hd5 d6 d61 hh6 HF5 hg7
  go_wp2
  go_region
  obtain ⟨W8, hW8⟩ : ∃ W8, W8 = (((W7.setCell ⟨b, 10, none⟩ (.int .i64 (n1 : Int))).setCell ⟨b, 12, none⟩ (.int .i64 (m0 : Int))).setCell ⟨b, 13, none⟩ (.int .i64 (r.fr.size : Int))).drew := ⟨_, rfl⟩
  rw [← hW8]
  obtain ⟨r1, hr1⟩ : ∃ r1 : RD, r1 = { r with mi := (n1 : Int), mf := (m0 : Int), xf := (r.fr.size : Int) } := ⟨_, rfl⟩
  have HR8 : Hid (IsRd W8 b r1) := Lib.hid (by rw [hW8, hr1]; exact blk_drew (set_nums HR7.out _ _ _))
  have HM8 : Hid (Mid b w W8) := Lib.hid (by rw [hW8]; exact (((HM7.out.set _ _).set _ _).set _ _).drew)
  have HG8 : Hid (W8.heap[g]? = some (.cells cur 3 (0, 0))) := Lib.hid (by rw [hW8]; exact blk_drew (blk_far (blk_far (blk_far hHG.out hgb _) hgb _) hgb _))
  have HP8 : Hid (W8.heap[g2]? = some (.cells cur2 3 (0, 0))) := Lib.hid (by rw [hW8]; exact blk_drew (blk_far (blk_far (blk_far hHP.out hg2b _) hg2b _) hg2b _))
  have s4 : W8.cell? ⟨b, 4, none⟩ = some (.bool r.sc) := (blk_cell HR8.out 4).trans (by rw [hr1]; rfl)
  have s0 : W8.cell? ⟨b, 0, none⟩ = some (.string r.wh) := (blk_cell HR8.out 0).trans (by rw [hr1]; rfl)
  have s11 : W8.cell? ⟨b, 11, none⟩ = some (.int .i64 r.ma) := (blk_cell HR8.out 11).trans (by rw [hr1]; rfl)
  have hrf8 := blk_frozen HR8.out
  have HR1 := Lib.hid hr1
  clear hW8 hr1 hk1 hk10 hk12 hk13 hrf hw0 hw1 hv0 hi1 HM7 HR7 HM5 HR5 HQ1 HQ2 HQ3 hHG hHP
  obtain ⟨sc, hsc⟩ : ∃ sc, sc = r.sc := ⟨_, rfl⟩
  have HSC := Lib.hid hsc
  rw [← hsc] at s4
  clear hsc
  have hi0 := fun W => idx_ints 2 cap 0 g W (by omega)
  have hj1 := fun W => idx_ints 2 cap2 1 g2 W (by omega)
  cases sc with
  | true =>
    go_wp2
    obtain ⟨W9, hW9⟩ : ∃ W9, W9 = W8.setCell ⟨b, 11, none⟩ (.int .i64 (r.wh.size : Int)) := ⟨_, rfl⟩
    rw [← hW9]
    obtain ⟨r2, hr2⟩ : ∃ r2 : RD, r2 = { r1 with ma := (r.wh.size : Int) } := ⟨_, rfl⟩
    have HR9 : Hid (IsRd W9 b r2) := Lib.hid (by rw [hW9, hr2]; exact set_ma HR8.out _)
    have HM9 : Hid (Mid b w W9) := Lib.hid (by rw [hW9]; exact HM8.out.set _ _)
    have HG9 : Hid (W9.heap[g]? = some (.cells cur 3 (0, 0))) := Lib.hid (by rw [hW9]; exact blk_far HG8.out hgb _)
    have HP9 : Hid (W9.heap[g2]? = some (.cells cur2 3 (0, 0))) := Lib.hid (by rw [hW9]; exact blk_far HP8.out hg2b _)
    have HR2 : Hid (r2 = { r with mi := (n1 : Int), mf := (m0 : Int), xf := (r.fr.size : Int), ma := (r.wh.size : Int) }) := Lib.hid (by rw [hr2, HR1.out])
    clear hW9 hr2
    have t0 : W9.cell? ⟨b, 0, none⟩ = some (.string r.wh) := (blk_cell HR9.out 0).trans (by rw [HR2.out]; rfl)
    have t1 : W9.cell? ⟨b, 1, none⟩ = some (.string r.fr) := (blk_cell HR9.out 1).trans (by rw [HR2.out]; rfl)
    have u0 := (blk_cell HG9.out 0).trans HQQ0.out
    have u1 := (blk_cell HP9.out 0).trans HV0.out
    clear s0 s4 s11 hrf8
    go_region
    obtain ⟨W10, hW10⟩ : ∃ W10, W10 = W9.drew := ⟨_, rfl⟩
    have HR10 : Hid (IsRd W10 b r2) := Lib.hid (by rw [hW10]; exact blk_drew HR9.out)
    have HM10 : Hid (Mid b w W10) := Lib.hid (by rw [hW10]; exact HM9.out.drew)
    have HP10 : Hid (W10.heap[g2]? = some (.cells cur2 3 (0, 0))) := Lib.hid (by rw [hW10]; exact blk_drew HP9.out)
    rw [← hW10, ← HDG.out]
    clear hW10 t0 t1 u0 u1
    have hrf10 := blk_frozen HR10.out
    have x18 : W10.cell? ⟨b, 18, none⟩ = some (.string r.inc) := (blk_cell HR10.out 18).trans (by rw [HR2.out]; rfl)
    have x4 : W10.cell? ⟨b, 4, none⟩ = some (.bool true) := (blk_cell HR10.out 4).trans (by rw [HR2.out, HSC.out]; rfl)
    have y1 := (blk_cell HP10.out 1).trans HV1.out
    have hcellP : (W10.setCell ⟨b, 18, none⟩ (.string ic)).cell? ⟨g2, 1, none⟩ = some (.int .i64 (m1 : Int)) := (blk_cell (blk_far HP10.out hg2b _) 1).trans HV1.out
    have hcell18 : (W10.setCell ⟨b, 18, none⟩ (.string ic)).cell? ⟨b, 18, none⟩ = some (.string ic) := (blk_cell (set_inc HR10.out ic) 18).trans rfl
    have hcell4 : (W10.setCell ⟨b, 18, none⟩ (.string ic)).cell? ⟨b, 4, none⟩ = some (.bool true) := (blk_cell (set_inc HR10.out ic) 4).trans (by rw [HR2.out, HSC.out]; rfl)
    have HFIN : Hid (IsRd (W10.setCell ⟨b, 18, none⟩ (.string ic)) b rr) := Lib.hid (by rw [HRR.out, if_pos HSC.out.symm]; have := set_inc HR10.out ic; rw [HR2.out] at this; exact this)
    have HMF : Hid (Mid b w (W10.setCell ⟨b, 18, none⟩ (.string ic))) := Lib.hid (HM10.out.set _ _)
    have hmc : m1 = 0 ∨ (decide ((0 : Int) < (m1 : Int)) = true ∧ ¬ m1 = 0 ∧ 0 < m1) := by
      rcases Nat.eq_zero_or_pos m1 with e | e
      · exact .inl e
      · exact .inr ⟨decide_eq_true (by omega), by omega, e⟩
    rcases hmc with rfl | ⟨hmc1, hmc2, hmc3⟩ <;> cases ie
    all_goals
      have HE2 := HE.out
      simp [← HSC.out] at HE2
      try rw [if_pos hmc3] at HE2
      subst HE2
      go_wp2_with (go_at_call 45; (with_reducible refine (HTL.out _).mono ?_); rintro e W11 ⟨rfl, rfl⟩)
      go_ret
      exact ⟨rfl, HMF.out, HFIN.out⟩
  | false =>
    go_wp2
    obtain ⟨W9, hW9⟩ : ∃ W9, W9 = W8 := ⟨_, rfl⟩
    rw [← hW9]
    obtain ⟨r2, hr2⟩ : ∃ r2 : RD, r2 = r1 := ⟨_, rfl⟩
    have HR9 : Hid (IsRd W9 b r2) := Lib.hid (by rw [hW9, hr2]; exact HR8.out)
    have HM9 : Hid (Mid b w W9) := Lib.hid (by rw [hW9]; exact HM8.out)
    have HG9 : Hid (W9.heap[g]? = some (.cells cur 3 (0, 0))) := Lib.hid (by rw [hW9]; exact HG8.out)
    have HP9 : Hid (W9.heap[g2]? = some (.cells cur2 3 (0, 0))) := Lib.hid (by rw [hW9]; exact HP8.out)
    have HR2 : Hid (r2 = { r with mi := (n1 : Int), mf := (m0 : Int), xf := (r.fr.size : Int), ma := r.ma }) := Lib.hid (by rw [hr2, HR1.out])
    clear hW9 hr2
    have t0 : W9.cell? ⟨b, 0, none⟩ = some (.string r.wh) := (blk_cell HR9.out 0).trans (by rw [HR2.out]; rfl)
    have t1 : W9.cell? ⟨b, 1, none⟩ = some (.string r.fr) := (blk_cell HR9.out 1).trans (by rw [HR2.out]; rfl)
    have u0 := (blk_cell HG9.out 0).trans HQQ0.out
    have u1 := (blk_cell HP9.out 0).trans HV0.out
    clear s0 s4 s11 hrf8
    go_region
    obtain ⟨W10, hW10⟩ : ∃ W10, W10 = W9.drew := ⟨_, rfl⟩
    have HR10 : Hid (IsRd W10 b r2) := Lib.hid (by rw [hW10]; exact blk_drew HR9.out)
    have HM10 : Hid (Mid b w W10) := Lib.hid (by rw [hW10]; exact HM9.out.drew)
    have HP10 : Hid (W10.heap[g2]? = some (.cells cur2 3 (0, 0))) := Lib.hid (by rw [hW10]; exact blk_drew HP9.out)
    rw [← hW10, ← HDG.out]
    clear hW10 t0 t1 u0 u1
    have hrf10 := blk_frozen HR10.out
    have x18 : W10.cell? ⟨b, 18, none⟩ = some (.string r.inc) := (blk_cell HR10.out 18).trans (by rw [HR2.out]; rfl)
    have x4 : W10.cell? ⟨b, 4, none⟩ = some (.bool false) := (blk_cell HR10.out 4).trans (by rw [HR2.out, HSC.out]; rfl)
    have y1 := (blk_cell HP10.out 1).trans HV1.out
    have hcellP : (W10.setCell ⟨b, 18, none⟩ (.string ic)).cell? ⟨g2, 1, none⟩ = some (.int .i64 (m1 : Int)) := (blk_cell (blk_far HP10.out hg2b _) 1).trans HV1.out
    have hcell18 : (W10.setCell ⟨b, 18, none⟩ (.string ic)).cell? ⟨b, 18, none⟩ = some (.string ic) := (blk_cell (set_inc HR10.out ic) 18).trans rfl
    have hcell4 : (W10.setCell ⟨b, 18, none⟩ (.string ic)).cell? ⟨b, 4, none⟩ = some (.bool false) := (blk_cell (set_inc HR10.out ic) 4).trans (by rw [HR2.out, HSC.out]; rfl)
    have HFIN : Hid (IsRd (W10.setCell ⟨b, 18, none⟩ (.string ic)) b rr) := Lib.hid (by rw [HRR.out, if_neg (by rw [← HSC.out]; simp)]; have := set_inc HR10.out ic; rw [HR2.out] at this; exact this)
    have HMF : Hid (Mid b w (W10.setCell ⟨b, 18, none⟩ (.string ic))) := Lib.hid (HM10.out.set _ _)
    have hmc : m1 = 0 ∨ (decide ((0 : Int) < (m1 : Int)) = true ∧ ¬ m1 = 0 ∧ 0 < m1) := by
      rcases Nat.eq_zero_or_pos m1 with e | e
      · exact .inl e
      · exact .inr ⟨decide_eq_true (by omega), by omega, e⟩
    rcases hmc with rfl | ⟨hmc1, hmc2, hmc3⟩ <;> cases ie
    all_goals
      have HE2 := HE.out
      simp [← HSC.out] at HE2
      try rw [if_pos hmc3] at HE2
      subst HE2
      go_wp2_with (go_at_call 45; (with_reducible refine (HTL.out _).mono ?_); rintro e W11 ⟨rfl, rfl⟩)
      go_ret
      exact ⟨rfl, HMF.out, HFIN.out⟩
end Go.Proofs.YtgobcejjefgkcaaDoor.Print
