/- The reader of package number: mixed; counts as a whole. -/
import Derived.Test.YtgobcejjefgkcaaDoorNi
namespace Go.Proofs.YtgobcejjefgkcaaDoor.Print
open Go.RowKit Go.Proofs.YtgobcejjefgkcaaDoorW.PrintWords Go.Proofs.YtgobcejjefgkcaaDoorW.PrintLast Go.Proofs.YtgobcejjefgkcaaDoorW.PrintMore
set_option linter.unusedVariables false
set_option linter.unusedSimpArgs false

theorem counts_calls (r : RD) (b : Nat) (w : World) (h : IsRd w b r) (hs1 : r.wh.size ≤ 1000000000) (hs2 : r.fr.size ≤ 1000000000) (hlow : ∀ c ∈ N.L r.wh, c.toNat < 128) :
    Calls Tryd.prog 21 #[.pointer (some ⟨b, 0, none⟩)] w fun e w' => e = .returned (.int .i64 (N.countsE r.pt r.sc (N.L r.wh) (N.L r.fr))) ∧ Mid b w w' ∧ Then (N.countsE r.pt r.sc (N.L r.wh) (N.L r.fr)) (IsRd w' b (countsR r)) := by
  unfold N.countsE countsR
  by_cases h1 : N.L r.wh ++ N.L r.fr = []
  · rw [if_pos h1]
    exact (counts_none r b w h hs1 hs2 h1).mono fun e w' ⟨he, hm⟩ => ⟨he, hm, fun h0 => absurd h0 (by decide)⟩
  rw [if_neg h1]
  by_cases h2 : (64 : UInt8) ∈ N.L r.wh ++ N.L r.fr
  · rw [if_pos h2, if_pos h2]
    exact counts_sig r b w h hs1 hs2 hlow h2
  rw [if_neg h2, if_neg h2]
  unfold N.digE
  by_cases h3 : (((N.L r.wh).dropWhile N.isH).dropWhile N.dig) ≠ [] ∨ (((N.L r.fr).dropWhile N.dig).dropWhile N.isH) ≠ []
  · rw [if_pos h3]
    exact (counts_bad r b w h hs1 hs2 h1 h2 h3).mono fun e w' ⟨he, hm⟩ => ⟨he, hm, fun h0 => absurd h0 (by decide)⟩
  · rw [if_neg h3]
    simp only [not_or, ne_eq, Decidable.not_not] at h3
    exact (counts_good r b w h hs1 hs2 h1 h2 h3.1 h3.2).mono fun e w' ⟨he, hm, hr⟩ => ⟨he, hm, fun _ => hr⟩

/-! ### mixed -/
def mixedZ (r : RD) : Int :=
  if r.sc = true ∧ (0 < r.pr ∨ 0 < r.ms ∧ (N.L r.wh).head? = some 35) then 6
  else if 40 < max r.mi (max r.ma (max r.xf (max r.xs (max r.pr (max r.se (r.inc.size : Int)))))) then 8 else 0
def mx2 (x y : Int) : Int := if y > x then y else x
theorem fold_max (P : Program) : ∀ (l : List Int) (x : Int) (w : World), ((l.map (Value.int .i64)).foldlM Builtin.max2 (.int .i64 x)).run P w = .ok (.int .i64 (l.foldl mx2 x)) w
  | [], x, w => by simp [List.foldlM]
  | y :: l, x, w => by
    have ih := fold_max P l (mx2 x y) w
    unfold mx2 at ih ⊢
    simp only [List.map_cons, List.foldlM_cons, List.foldl_cons, Builtin.max2]
    simpa using ih
theorem run_max7 (P : Program) (ts : Array TypeId) (t : TypeId) (x1 x2 x3 x4 x5 x6 x7 : Int) (w : World) : (Builtin.max_ ts t #[.int .i64 x1, .int .i64 x2, .int .i64 x3, .int .i64 x4, .int .i64 x5, .int .i64 x6, .int .i64 x7]).run P w = .ok (.int .i64 ([x2, x3, x4, x5, x6, x7].foldl mx2 x1)) w :=
  fold_max P [x2, x3, x4, x5, x6, x7] x1 w
theorem fold_max_lt : ∀ (l : List Int) (x : Int), 40 < l.foldl mx2 x ↔ 40 < x ∨ ∃ y ∈ l, 40 < y
  | [], x => by simp
  | y :: l, x => by
    rw [List.foldl_cons, fold_max_lt l (mx2 x y)]
    have : 40 < mx2 x y ↔ 40 < x ∨ 40 < y := by unfold mx2; split <;> omega
    rw [this]
    simp [or_assoc]
set_option maxHeartbeats 8000000 in
set_option maxRecDepth 1000000 in
theorem mixed_calls (r : RD) (b : Nat) (w : World) (h : IsRd w b r) (hwh : 0 < r.ms → 0 < r.wh.size) :
    Calls Tryd.prog 22 #[.pointer (some ⟨b, 0, none⟩)] w fun e w' => e = .returned (.int .i64 (mixedZ r)) ∧ Mid b w w' ∧ IsRd w' b r := by
  have hc0 : w.cell? ⟨b, 0, none⟩ = some (.string r.wh) := blk_cell h 0
  have hc4 : w.cell? ⟨b, 4, none⟩ = some (.bool r.sc) := blk_cell h 4
  have hc10 : w.cell? ⟨b, 10, none⟩ = some (.int .i64 r.mi) := blk_cell h 10
  have hc11 : w.cell? ⟨b, 11, none⟩ = some (.int .i64 r.ma) := blk_cell h 11
  have hc13 : w.cell? ⟨b, 13, none⟩ = some (.int .i64 r.xf) := blk_cell h 13
  have hc14 : w.cell? ⟨b, 14, none⟩ = some (.int .i64 r.ms) := blk_cell h 14
  have hc15 : w.cell? ⟨b, 15, none⟩ = some (.int .i64 r.xs) := blk_cell h 15
  have hc16 : w.cell? ⟨b, 16, none⟩ = some (.int .i64 r.pr) := blk_cell h 16
  have hc17 : w.cell? ⟨b, 17, none⟩ = some (.int .i64 r.se) := blk_cell h 17
  have hc18 : w.cell? ⟨b, 18, none⟩ = some (.string r.inc) := blk_cell h 18
  have hlt := blk_lt h
  obtain ⟨E, hE⟩ : ∃ E, E = mixedZ r := ⟨_, rfl⟩
  rw [← hE]
  unfold mixedZ at hE
  have HH := Lib.hid h
  have HE := Lib.hid hE
  have HW := Lib.hid hwh
  clear h hE hwh
  obtain ⟨wh, fr, ex, pt, sc, mi, ma, mf, xf, ms, xs, pr, se, inc, ps, me, pp⟩ := r
  simp only at hc0 hc4 hc10 hc11 hc13 hc14 hc15 hc16 hc17 hc18
  by_cases hbad : sc = true ∧ (0 < pr ∨ 0 < ms ∧ (N.L wh).head? = some 35)
  · obtain rfl : E = 6 := HE.out.trans (if_pos hbad)
    obtain ⟨rfl, hbad⟩ := hbad
    by_cases hp : 0 < pr
    · have k1 : decide ((0 : Int) < pr) = true := decide_eq_true hp
      clear hbad hp
      go_enter Tryd.func22, Tryd.ntmps22
      go_wp2
      go_ret
      exact ⟨rfl, Mid.refl _ _, HH.out⟩
    · obtain ⟨hm, hh⟩ := hbad.resolve_left hp
      have k1 : decide ((0 : Int) < pr) = false := decide_eq_false hp
      have k2 : decide ((0 : Int) < ms) = true := decide_eq_true hm
      have hz := HW.out hm
      simp only at hz
      have k3 : (((wh[0]'hz).toNat : Int) == 35) = true := by
        have : (wh[0]'hz) = 35 := by
          rw [List.head?_eq_getElem?] at hh
          exact (List.getElem?_eq_some_iff.1 hh).2
        rw [this]; rfl
      clear hbad hp hm hh
      go_enter Tryd.func22, Tryd.ntmps22
      go_wp2
      go_ret
      exact ⟨rfl, Mid.refl _ _, HH.out⟩
  · have hE2 := HE.out.trans (if_neg hbad)
    simp only at hE2
    have HE2 := Lib.hid hE2
    clear hE2
    have hmx := fun ts t w => run_max7 Tryd.prog ts t mi ma xf xs pr se (inc.size : Int) w
    obtain ⟨M, hM⟩ : ∃ M, M = [ma, xf, xs, pr, se, (inc.size : Int)].foldl mx2 mi := ⟨_, rfl⟩
    rw [← hM] at hmx
    have hMM : (40 < max mi (max ma (max xf (max xs (max pr (max se (inc.size : Int))))))) ↔ 40 < M := by
      rw [hM, fold_max_lt]
      simp only [List.mem_cons, List.not_mem_nil, or_false, exists_eq_or_imp, exists_eq_left]
      omega
    obtain ⟨z, hz⟩ : ∃ z, z = decide ((40 : Int) < M) := ⟨_, rfl⟩
    have HE3 : Hid (E = if z = true then 8 else 0) := Lib.hid (by rw [HE2.out, hz]; simp only [hMM, decide_eq_true_eq])
    have hz2 := hz.symm
    have HB := Lib.hid hbad
    clear hM hMM hz hbad
    cases sc with
    | false =>
      go_enter Tryd.func22, Tryd.ntmps22
      go_wp2
      go_region
      cases z
      all_goals
        obtain rfl := HE3.out
        go_wp2
        go_ret
        exact ⟨rfl, (Mid.refl _ _).drew, blk_drew HH.out⟩
    | true =>
      have k1 : decide ((0 : Int) < pr) = false := decide_eq_false (fun hp => HB.out ⟨rfl, .inl hp⟩)
      by_cases hm : 0 < ms
      · have k2 : decide ((0 : Int) < ms) = true := decide_eq_true hm
        have hzz := HW.out hm
        simp only at hzz
        have k3 : (((wh[0]'hzz).toNat : Int) == 35) = false := by
          refine beq_eq_false_iff_ne.2 (fun he => HB.out ⟨rfl, .inr ⟨hm, ?_⟩⟩)
          rw [List.head?_eq_getElem?, List.getElem?_eq_getElem (by rw [N.L_len]; exact hzz)]
          have : (wh[0]'hzz) = 35 := UInt8.toNat_inj.1 (by have : ((wh[0]'hzz).toNat : Int) = 35 := he; show (wh[0]'hzz).toNat = 35; omega)
          exact congrArg some this
        clear hm
        go_enter Tryd.func22, Tryd.ntmps22
        go_wp2
        go_region
        cases z
        all_goals
          obtain rfl := HE3.out
          go_wp2
          go_ret
          exact ⟨rfl, (Mid.refl _ _).drew, blk_drew HH.out⟩
      · have k2 : decide ((0 : Int) < ms) = false := decide_eq_false hm
        clear hm
        go_enter Tryd.func22, Tryd.ntmps22
        go_wp2
        go_region
        cases z
        all_goals
          obtain rfl := HE3.out
          go_wp2
          go_ret
          exact ⟨rfl, (Mid.refl _ _).drew, blk_drew HH.out⟩
end Go.Proofs.YtgobcejjefgkcaaDoor.Print
