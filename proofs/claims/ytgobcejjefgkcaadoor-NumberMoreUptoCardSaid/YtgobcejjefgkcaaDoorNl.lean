/- Package number's Parse: the walk, by what is wrong first. -/
import Derived.Test.YtgobcejjefgkcaaDoorNk
import Derived.Deep.MidRow
namespace Go.Proofs.YtgobcejjefgkcaaDoor.Print
open Go.RowKit Go.Proofs.YtgobcejjefgkcaaDoorW.PrintWords Go.Proofs.YtgobcejjefgkcaaDoorW.PrintLast Go.Proofs.YtgobcejjefgkcaaDoorW.PrintMore
set_option linter.unusedVariables false
set_option linter.unusedSimpArgs false

/-- The error behind so many of the last three steps. -/
def errAt (F0 E3 E4 E5 : Int) : Nat → Int
  | 0 => F0
  | 1 => if F0 ≠ 0 then F0 else E3
  | 2 => if (if F0 ≠ 0 then F0 else E3) ≠ 0 then (if F0 ≠ 0 then F0 else E3) else E4
  | _ => if (if (if F0 ≠ 0 then F0 else E3) ≠ 0 then (if F0 ≠ 0 then F0 else E3) else E4) ≠ 0 then (if (if F0 ≠ 0 then F0 else E3) ≠ 0 then (if F0 ≠ 0 then F0 else E3) else E4) else E5
def rdAt (s : ByteArray) : Nat → RD
  | 0 => r3 s
  | 1 => r4 s
  | _ => r5 s
def fnV : Array Value := #[.func (.func 20) #[] #[], .func (.func 21) #[] #[], .func (.func 22) #[] #[]]
theorem errAt_keep {F0 E3 E4 E5 : Int} {i : Nat} (hi : i < 3) (h : errAt F0 E3 E4 E5 i ≠ 0) : errAt F0 E3 E4 E5 (i + 1) = errAt F0 E3 E4 E5 i := by
  match i, hi with
  | 0, _ => exact if_pos h
  | 1, _ => exact if_pos h
  | 2, _ => exact if_pos h
theorem errAt_1 {F0 E3 E4 E5 : Int} (h : errAt F0 E3 E4 E5 0 = 0) : E3 = errAt F0 E3 E4 E5 1 := (if_neg (fun hn => hn h)).symm
theorem errAt_2 {F0 E3 E4 E5 : Int} (h : errAt F0 E3 E4 E5 1 = 0) : E4 = errAt F0 E3 E4 E5 2 := (if_neg (fun hn => hn h)).symm
theorem errAt_3 {F0 E3 E4 E5 : Int} (h : errAt F0 E3 E4 E5 2 = 0) : E5 = errAt F0 E3 E4 E5 3 := (if_neg (fun hn => hn h)).symm
theorem errAt_up {F0 E3 E4 E5 : Int} : ∀ {i : Nat}, i < 4 → errAt F0 E3 E4 E5 i ≠ 0 → errAt F0 E3 E4 E5 3 ≠ 0
  | 3, _, h => h
  | 2, _, h => by rw [errAt_keep (i := 2) (by omega) h]; exact h
  | 1, _, h => by rw [errAt_keep (i := 2) (by omega) (by rw [errAt_keep (i := 1) (by omega) h]; exact h), errAt_keep (i := 1) (by omega) h]; exact h
  | 0, _, h => by
    have h1 := errAt_keep (E3 := E3) (E4 := E4) (E5 := E5) (i := 0) (by omega) h
    have h2 := errAt_keep (E3 := E3) (E4 := E4) (E5 := E5) (i := 1) (by omega) (by rw [h1]; exact h)
    have h3 := errAt_keep (E3 := E3) (E4 := E4) (E5 := E5) (i := 2) (by omega) (by rw [h2, h1]; exact h)
    rw [h3, h2, h1]; exact h
theorem errAt_zero {F0 E3 E4 E5 : Int} : ∀ {i : Nat}, i < 4 → errAt F0 E3 E4 E5 i = 0 → F0 = 0
  | 0, _, h => h
  | 1, _, h => Decidable.byContradiction fun hn => by
    have h1 := errAt_keep (F0 := F0) (E3 := E3) (E4 := E4) (E5 := E5) (i := 0) (by omega) hn
    exact hn (h1.symm.trans h)
  | 2, _, h => Decidable.byContradiction fun hn => by
    have h1 := errAt_keep (F0 := F0) (E3 := E3) (E4 := E4) (E5 := E5) (i := 0) (by omega) hn
    have h2 := errAt_keep (F0 := F0) (E3 := E3) (E4 := E4) (E5 := E5) (i := 1) (by omega) (by rw [h1]; exact hn)
    exact hn ((h2.trans h1).symm.trans h)
  | 3, _, h => Decidable.byContradiction fun hn => by
    exact errAt_up (i := 0) (by omega) hn h
theorem store_row_event {P : Program} {ops : Array Oper} {rest : List Oper} {o : Oper} {a : Act} {Q : Exit → Act → World → Prop} {W : World} (hgd : o.guard = none) (hN : o.dst = none) {t : TypeId} {p : Tmp} {v : Operand} (ho : o.op = .store t (.tmp p) v) (g : Nat) (cells old : Array Value) (e : TypeId)
    (hx : a.eval (.tmp p) = .pointer (some ⟨g, 0, none⟩)) (hy : a.eval v = .agg cells) (hg : W.heap[g]? = some (.cells old e (0, 0))) (hi : (P.info? t).map (·.size) = some cells.size) (hs : old.size = cells.size) (h1 : cells.all (·.oneCell') = true)
    (h : wpList P ops Q rest a (W.setRow g cells)) : wpList P ops Q (o :: rest) a W :=
  wpList_plain hgd fun K hK => wp_store_row t (.tmp p) v ho g cells hx hy e old hg hi hs h1 (hK _ _ (by rw [hN]; exact h))
theorem below_row {w W : World} {g : Nat} {cs : Array Value} (h : Below w.heap.size w W) (hg : w.heap.size ≤ g) : Below w.heap.size w (W.setRow g cs) :=
  ⟨h.os, h.tape, h.output, by rw [setRow_size]; exact h.size, fun k hk => (setRow_other W g k cs (by omega)).trans (h.block k hk)⟩
theorem patR_one (r : RD) : (patR r).all (·.oneCell') = true := by simp [patR, Value.oneCell']
theorem rd_range {w : World} {b : Nat} {r : RD} (h : IsRd w b r) : w.rangeAt b 5 (patR r).toList := fun j v hv => by
  rw [blk_cell h (5 + j)]
  have e : (patR r).toList = (rdV r).toList.drop 5 := rfl
  rw [e, List.getElem?_drop] at hv
  rw [← Array.getElem?_toList]
  exact hv
theorem Then.get {e : Int} {p : Prop} (h : Then e p) (he : e = 0) : p := h he
set_option maxHeartbeats 8000000 in
set_option maxRecDepth 1000000 in
theorem parse_exp_fails (s ex s0 : ByteArray) (sc : Bool) (E1 E2 E3 E4 E5 : Int) (w : World) (hT : Tabs w)
    (HC : Hid (∀ W, Tabs W → Calls Tryd.prog 17 #[.string s, .string ⟨#[69]⟩] W fun e w' => e = .returned (.tuple #[.string s0, .string ex, .bool sc]) ∧ Below W.heap.size W w'))
    (HR : Hid (r1 s = { rd0 with ex := ex, sc := sc }))
    (HM1 : Hid (∀ (b : Nat) (W : World), IsRd W b (r1 s) → Calls Tryd.prog 18 #[.pointer (some ⟨b, 0, none⟩)] W fun e w' => e = .returned (.int .i64 E1) ∧ Mid b W w' ∧ Then E1 (IsRd w' b (r2 s))))
    (HM2 : Hid (∀ (b : Nat) (W : World), IsRd W b (r2 s) → Tabs W → Calls Tryd.prog 19 #[.pointer (some ⟨b, 0, none⟩), .string s0] W fun e w' => e = .returned (.int .i64 E2) ∧ Mid b W w' ∧ Then E2 (IsRd w' b (r3 s))))
    (HM3 : Hid (∀ (b : Nat) (W : World), IsRd W b (r3 s) → Tabs W → Calls Tryd.prog 20 #[.pointer (some ⟨b, 0, none⟩)] W fun e w' => e = .returned (.int .i64 E3) ∧ Mid b W w' ∧ Then E3 (IsRd w' b (r4 s))))
    (HM4 : Hid (E2 = 0 → ∀ (b : Nat) (W : World), IsRd W b (r4 s) → Calls Tryd.prog 21 #[.pointer (some ⟨b, 0, none⟩)] W fun e w' => e = .returned (.int .i64 E4) ∧ Mid b W w' ∧ Then E4 (IsRd w' b (r5 s))))
    (HM5 : Hid (∀ (b : Nat) (W : World), IsRd W b (r5 s) → Calls Tryd.prog 22 #[.pointer (some ⟨b, 0, none⟩)] W fun e w' => e = .returned (.int .i64 E5) ∧ Mid b W w' ∧ IsRd w' b (r5 s)))
    (F : Int) (hne : F ≠ 0) (hF : F = errAt E1 E3 E4 E5 3) (h1 : E1 ≠ 0) :
    Calls Tryd.prog 10 #[.string s] w fun e w' => e = .returned (.tuple #[.agg (patR rd0), .int .i64 F]) ∧ Below w.heap.size w w' := by
  have hlen : 0 < w.heap.size := by
    obtain ⟨m, hm⟩ := hT
    exact World.block_lt_of_cell? w _ hm
  obtain ⟨W1, hW1⟩ : ∃ W1, W1 = (w.alloc (.cells #[.slice none 0 0, .slice none 0 0, .bool false, .slice none 0 0, .slice none 0 0, .int .i64 0, .int .i64 0, .int .i64 0, .int .i64 0, .int .i64 0, .int .i64 0, .int .i64 0, .int .i64 0, .string ⟨#[]⟩, .bool false, .int .i64 0, .bool false, .int .i64 0, .int .i32 0, .int .i64 0] 25)).alloc (.cells #[.string ⟨#[]⟩, .string ⟨#[]⟩, .string ⟨#[]⟩, .bool false, .bool false, .slice none 0 0, .slice none 0 0, .bool false, .slice none 0 0, .slice none 0 0, .int .i64 0, .int .i64 0, .int .i64 0, .int .i64 0, .int .i64 0, .int .i64 0, .int .i64 0, .int .i64 0, .string ⟨#[]⟩, .bool false, .int .i64 0, .bool false, .int .i64 0, .int .i32 0, .int .i64 0] 38) := ⟨_, rfl⟩
  have hs1 : W1.heap.size = w.heap.size + 1 + 1 := by rw [hW1]; show ((w.heap.push _).push _).size = _; simp
  have hb1 : Below w.heap.size w W1 := by rw [hW1]; exact below_alloc (below_alloc (Below.refl _ w) _) _
  have hR1 : IsRd W1 (w.heap.size + 1) rd0 := by
    have e : (w.alloc (.cells #[.slice none 0 0, .slice none 0 0, .bool false, .slice none 0 0, .slice none 0 0, .int .i64 0, .int .i64 0, .int .i64 0, .int .i64 0, .int .i64 0, .int .i64 0, .int .i64 0, .int .i64 0, .string ⟨#[]⟩, .bool false, .int .i64 0, .bool false, .int .i64 0, .int .i32 0, .int .i64 0] 25)).heap.size = w.heap.size + 1 := by show (w.heap.push _).size = _; simp
    rw [hW1, ← e]
    exact heap_alloc_new _ _
  have hP1 : W1.heap[w.heap.size]? = some (.cells (patR rd0) 25 (0, 0)) := by
    rw [hW1]
    exact (Below.heap_alloc _ _ _ (by show _ < (w.heap.push _).size; simp)).trans (heap_alloc_new w _)
  have HW1 := Lib.hid hW1
  have HT1 := Lib.hid (Tabs_below hT hb1)
  have HB1 := Lib.hid hb1
  have HR1 := Lib.hid hR1
  have HP1 := Lib.hid hP1
  clear hT hW1 hb1 hR1 hP1
  have hne1 : (E1 == 0) = false := beq_eq_false_iff_ne.2 h1
  have HN1 := Lib.hid h1
  clear h1
  go_enter Tryd.func10, Tryd.ntmps10
  go_wp2_with (first
    | (go_at_call 17; rw [← HW1.out]; (with_reducible refine (HC.out _ HT1.out).mono ?_); rintro e W2 ⟨rfl, b2⟩; have HB2 := Lib.hid (below_step HB1.out b2); have hs2 := b2.size; have HT2 := Lib.hid (Tabs_below HT1.out b2); have HR2 := Lib.hid (heap_keeps b2 HR1.out); have HP2 := Lib.hid (heap_keeps b2 HP1.out); have hrf := blk_frozen HR2.out; have hk2 : W2.cell? ⟨w.heap.size + 1, 2, none⟩ = some (.string ⟨#[]⟩) := blk_cell HR2.out 2; have hk4 : W2.cell? ⟨w.heap.size + 1, 4, none⟩ = some (.bool false) := blk_cell HR2.out 4)
    | (go_at_call 18; (with_reducible refine (HM1.out _ _ (by rw [HR.out]; exact set_exp HR2.out ex sc)).mono ?_); rintro e W3 ⟨rfl, m3, t3⟩; have HM3w := Lib.hid (((Mid.refl (w.heap.size + 1) W2).set 2 (.string ex)).set 4 (.bool sc) |>.trans m3); have HT3w := Lib.hid t3; clear m3 t3))
  have hs3 := HM3w.out.size
  have HBS : Hid (Below w.heap.size w W3) := Lib.hid (HB2.out.trans ((HM3w.out.below (by omega)).mono (by omega)))
  have HRS : Hid (Then E1 (IsRd W3 (w.heap.size + 1) (r3 s))) := Lib.hid fun h0 => absurd h0 HN1.out
  have HPS : Hid (W3.heap[w.heap.size]? = some (.cells (patR rd0) 25 (0, 0))) := Lib.hid ((HM3w.out.block _ (blk_lt HP2.out) (by omega)).trans HP2.out)
  have HTS : Hid (Tabs W3) := Lib.hid (HM3w.out.lenVar HT2.out (by omega))
  have hfl : w.heap.size + 1 < W3.heap.size := by omega
  have HF0 : Hid ((W3.alloc (.cells fnV 43)).heap[W3.heap.size]? = some (.cells fnV 43 (0, 0))) := Lib.hid (heap_alloc_new _ _)
  have hbA : Below W3.heap.size W3 (W3.alloc (.cells fnV 43)) := (Below.refl _ _).alloc (Nat.le_refl _) _
  have HBA := Lib.hid (below_step HBS.out hbA)
  have HRA : Hid (Then E1 (IsRd (W3.alloc (.cells fnV 43)) (w.heap.size + 1) (r3 s))) := Lib.hid fun h0 => heap_keeps hbA (HRS.out h0)
  have HPA := Lib.hid (heap_keeps hbA HPS.out)
  have HTA := Lib.hid (Tabs_below HTS.out hbA)
  clear hbA
  go_loopw [5, 31] (fun v5 v31 wx => ∃ (i : Nat) (e : Int), v31 = .int .i64 i ∧ i ≤ 3 ∧ v5 = .int .i64 e ∧ Hid (e = errAt E1 E3 E4 E5 i) ∧ Hid (Then e (IsRd wx (w.heap.size + 1) (rdAt s i))) ∧ wx.heap[w.heap.size]? = some (.cells (patR rd0) 25 (0, 0)) ∧ wx.heap[W3.heap.size]? = some (.cells fnV 43 (0, 0)) ∧ Below w.heap.size w wx ∧ Hid (Tabs wx)) (fun v5 v31 wx => 3 - (RowKit.intOf v31).toNat)
  case atStart => exact ⟨0, E1, rfl, by omega, rfl, Lib.hid rfl, HRA, HPA.out, HF0.out, HBA.out, HTA⟩
  case round =>
    obtain ⟨i, e, rfl, hi3, rfl, he, hrd, hp, hf, hb, ht⟩ := hrel
    have hlf := blk_lt hf
    by_cases hi : i < 3
    · have hc : wr.cell? ⟨W3.heap.size, i, none⟩ = fnV[i]? := blk_cell hf i
      have hia := fun W => idx_fn3 3 i W3.heap.size W hi
      by_cases h0 : e = 0
      · have hq : (e == 0) = true := by rw [h0]; rfl
        have HRW := Lib.hid (hrd.out h0)
        have hz0 : errAt E1 E3 E4 E5 i = 0 := he.out.symm.trans h0
        have HF0z := Lib.hid (errAt_zero (show i < 4 by omega) hz0)
        have HZ := Lib.hid hz0
        clear hrd he hz0 h0
        exact absurd HF0z.out HN1.out
      · have HN0 := Lib.hid h0
        have hq : (e == 0) = false := beq_eq_false_iff_ne.2 h0
        obtain ⟨fv, hfv⟩ : ∃ fv, fnV[i]? = some fv := ⟨_, Array.getElem?_eq_getElem (xs := fnV) (show i < fnV.size from hi)⟩
        rw [hfv] at hc
        clear h0 hfv
        go_wp2
        go_roundw
        case rel => exact ⟨i + 1, e, by go_num, by omega, rfl, Lib.hid (by rw [errAt_keep hi (by rw [← he.out]; exact HN0.out)]; exact he.out), Lib.hid (fun h0 => absurd h0 HN0.out), hp, hf, hb, ht⟩
        case measure => simp [RowKit.intOf]; omega
    · obtain rfl : i = 3 := by omega
      have HPP := Lib.hid hp
      have HBB := Lib.hid hb
      have HEE : Hid (F = e) := Lib.hid (hF.trans he.out.symm)
      have hq : (e != 0) = true := bne_iff_ne.2 (by rw [← HEE.out]; exact hne)
      clear hrd he hi hf hp hb hF hne
      go_wp2_with ((with_reducible refine gate_store (t := 25) (p := 2) rfl ?_); refine store_row_event rfl rfl rfl w.heap.size (patR rd0) (patR rd0) 25 rfl rfl HPP.out (by kernel_rfl) rfl (patR_one _) ?_)
      refine bodyPost_ret (results_cell_tmp rfl _ _ w.heap.size 25 (patR rd0) (0, 0) _ rfl (setRow_heap _ _ _ _ _ _ HPP.out) rfl rfl (by kernel_rfl)) rfl ⟨?_, below_row HBB.out (Nat.le_refl _)⟩
      rw [HEE.out]
      rfl
set_option maxHeartbeats 8000000 in
set_option maxRecDepth 1000000 in
theorem parse_fails (s ex s0 : ByteArray) (sc : Bool) (E1 E2 E3 E4 E5 : Int) (w : World) (hT : Tabs w)
    (HC : Hid (∀ W, Tabs W → Calls Tryd.prog 17 #[.string s, .string ⟨#[69]⟩] W fun e w' => e = .returned (.tuple #[.string s0, .string ex, .bool sc]) ∧ Below W.heap.size W w'))
    (HR : Hid (r1 s = { rd0 with ex := ex, sc := sc }))
    (HM1 : Hid (∀ (b : Nat) (W : World), IsRd W b (r1 s) → Calls Tryd.prog 18 #[.pointer (some ⟨b, 0, none⟩)] W fun e w' => e = .returned (.int .i64 E1) ∧ Mid b W w' ∧ Then E1 (IsRd w' b (r2 s))))
    (HM2 : Hid (∀ (b : Nat) (W : World), IsRd W b (r2 s) → Tabs W → Calls Tryd.prog 19 #[.pointer (some ⟨b, 0, none⟩), .string s0] W fun e w' => e = .returned (.int .i64 E2) ∧ Mid b W w' ∧ Then E2 (IsRd w' b (r3 s))))
    (HM3 : Hid (∀ (b : Nat) (W : World), IsRd W b (r3 s) → Tabs W → Calls Tryd.prog 20 #[.pointer (some ⟨b, 0, none⟩)] W fun e w' => e = .returned (.int .i64 E3) ∧ Mid b W w' ∧ Then E3 (IsRd w' b (r4 s))))
    (HM4 : Hid (E2 = 0 → ∀ (b : Nat) (W : World), IsRd W b (r4 s) → Calls Tryd.prog 21 #[.pointer (some ⟨b, 0, none⟩)] W fun e w' => e = .returned (.int .i64 E4) ∧ Mid b W w' ∧ Then E4 (IsRd w' b (r5 s))))
    (HM5 : Hid (∀ (b : Nat) (W : World), IsRd W b (r5 s) → Calls Tryd.prog 22 #[.pointer (some ⟨b, 0, none⟩)] W fun e w' => e = .returned (.int .i64 E5) ∧ Mid b W w' ∧ IsRd w' b (r5 s)))
    (F : Int) (hne : F ≠ 0) (hF : F = errAt E2 E3 E4 E5 3) (h1 : E1 = 0) :
    Calls Tryd.prog 10 #[.string s] w fun e w' => e = .returned (.tuple #[.agg (patR rd0), .int .i64 F]) ∧ Below w.heap.size w w' := by
  have hlen : 0 < w.heap.size := by
    obtain ⟨m, hm⟩ := hT
    exact World.block_lt_of_cell? w _ hm
  obtain ⟨W1, hW1⟩ : ∃ W1, W1 = (w.alloc (.cells #[.slice none 0 0, .slice none 0 0, .bool false, .slice none 0 0, .slice none 0 0, .int .i64 0, .int .i64 0, .int .i64 0, .int .i64 0, .int .i64 0, .int .i64 0, .int .i64 0, .int .i64 0, .string ⟨#[]⟩, .bool false, .int .i64 0, .bool false, .int .i64 0, .int .i32 0, .int .i64 0] 25)).alloc (.cells #[.string ⟨#[]⟩, .string ⟨#[]⟩, .string ⟨#[]⟩, .bool false, .bool false, .slice none 0 0, .slice none 0 0, .bool false, .slice none 0 0, .slice none 0 0, .int .i64 0, .int .i64 0, .int .i64 0, .int .i64 0, .int .i64 0, .int .i64 0, .int .i64 0, .int .i64 0, .string ⟨#[]⟩, .bool false, .int .i64 0, .bool false, .int .i64 0, .int .i32 0, .int .i64 0] 38) := ⟨_, rfl⟩
  have hs1 : W1.heap.size = w.heap.size + 1 + 1 := by rw [hW1]; show ((w.heap.push _).push _).size = _; simp
  have hb1 : Below w.heap.size w W1 := by rw [hW1]; exact below_alloc (below_alloc (Below.refl _ w) _) _
  have hR1 : IsRd W1 (w.heap.size + 1) rd0 := by
    have e : (w.alloc (.cells #[.slice none 0 0, .slice none 0 0, .bool false, .slice none 0 0, .slice none 0 0, .int .i64 0, .int .i64 0, .int .i64 0, .int .i64 0, .int .i64 0, .int .i64 0, .int .i64 0, .int .i64 0, .string ⟨#[]⟩, .bool false, .int .i64 0, .bool false, .int .i64 0, .int .i32 0, .int .i64 0] 25)).heap.size = w.heap.size + 1 := by show (w.heap.push _).size = _; simp
    rw [hW1, ← e]
    exact heap_alloc_new _ _
  have hP1 : W1.heap[w.heap.size]? = some (.cells (patR rd0) 25 (0, 0)) := by
    rw [hW1]
    exact (Below.heap_alloc _ _ _ (by show _ < (w.heap.push _).size; simp)).trans (heap_alloc_new w _)
  have HW1 := Lib.hid hW1
  have HT1 := Lib.hid (Tabs_below hT hb1)
  have HB1 := Lib.hid hb1
  have HR1 := Lib.hid hR1
  have HP1 := Lib.hid hP1
  clear hT hW1 hb1 hR1 hP1
  have hne1 : (E1 == 0) = true := by rw [h1]; rfl
  have HN1 := Lib.hid h1
  have HZE : Hid (E2 = 0 → E2 = 0) := Lib.hid fun h0 => h0
  clear h1
  go_enter Tryd.func10, Tryd.ntmps10
  go_wp2_with (first
    | (go_at_call 17; rw [← HW1.out]; (with_reducible refine (HC.out _ HT1.out).mono ?_); rintro e W2 ⟨rfl, b2⟩; have HB2 := Lib.hid (below_step HB1.out b2); have hs2 := b2.size; have HT2 := Lib.hid (Tabs_below HT1.out b2); have HR2 := Lib.hid (heap_keeps b2 HR1.out); have HP2 := Lib.hid (heap_keeps b2 HP1.out); have hrf := blk_frozen HR2.out; have hk2 : W2.cell? ⟨w.heap.size + 1, 2, none⟩ = some (.string ⟨#[]⟩) := blk_cell HR2.out 2; have hk4 : W2.cell? ⟨w.heap.size + 1, 4, none⟩ = some (.bool false) := blk_cell HR2.out 4)
    | (go_at_call 18; (with_reducible refine (HM1.out _ _ (by rw [HR.out]; exact set_exp HR2.out ex sc)).mono ?_); rintro e W3 ⟨rfl, m3, t3⟩; have HM3w := Lib.hid (((Mid.refl (w.heap.size + 1) W2).set 2 (.string ex)).set 4 (.bool sc) |>.trans m3); have HT3w := Lib.hid t3; clear m3 t3)
    | (go_at_call 19; (with_reducible refine (HM2.out _ _ (Then.get HT3w.out HN1.out) (HM3w.out.lenVar HT2.out (by omega))).mono ?_); rintro e W4 ⟨rfl, m4, t4⟩; have HM4w := Lib.hid m4; have HT4w := Lib.hid t4; clear m4 t4))
  have hs3 := (HM3w.out.trans HM4w.out).size
  have HBS : Hid (Below w.heap.size w W4) := Lib.hid (HB2.out.trans (((HM3w.out.trans HM4w.out).below (by omega)).mono (by omega)))
  have HRS : Hid (Then E2 (IsRd W4 (w.heap.size + 1) (r3 s))) := Lib.hid HT4w.out
  have HPS : Hid (W4.heap[w.heap.size]? = some (.cells (patR rd0) 25 (0, 0))) := Lib.hid (((HM3w.out.trans HM4w.out).block _ (blk_lt HP2.out) (by omega)).trans HP2.out)
  have HTS : Hid (Tabs W4) := Lib.hid ((HM3w.out.trans HM4w.out).lenVar HT2.out (by omega))
  have hfl : w.heap.size + 1 < W4.heap.size := by omega
  have HF0 : Hid ((W4.alloc (.cells fnV 43)).heap[W4.heap.size]? = some (.cells fnV 43 (0, 0))) := Lib.hid (heap_alloc_new _ _)
  have hbA : Below W4.heap.size W4 (W4.alloc (.cells fnV 43)) := (Below.refl _ _).alloc (Nat.le_refl _) _
  have HBA := Lib.hid (below_step HBS.out hbA)
  have HRA : Hid (Then E2 (IsRd (W4.alloc (.cells fnV 43)) (w.heap.size + 1) (r3 s))) := Lib.hid fun h0 => heap_keeps hbA (HRS.out h0)
  have HPA := Lib.hid (heap_keeps hbA HPS.out)
  have HTA := Lib.hid (Tabs_below HTS.out hbA)
  clear hbA
  go_loopw [5, 31] (fun v5 v31 wx => ∃ (i : Nat) (e : Int), v31 = .int .i64 i ∧ i ≤ 3 ∧ v5 = .int .i64 e ∧ Hid (e = errAt E2 E3 E4 E5 i) ∧ Hid (Then e (IsRd wx (w.heap.size + 1) (rdAt s i))) ∧ wx.heap[w.heap.size]? = some (.cells (patR rd0) 25 (0, 0)) ∧ wx.heap[W4.heap.size]? = some (.cells fnV 43 (0, 0)) ∧ Below w.heap.size w wx ∧ Hid (Tabs wx)) (fun v5 v31 wx => 3 - (RowKit.intOf v31).toNat)
  case atStart => exact ⟨0, E2, rfl, by omega, rfl, Lib.hid rfl, HRA, HPA.out, HF0.out, HBA.out, HTA⟩
  case round =>
    obtain ⟨i, e, rfl, hi3, rfl, he, hrd, hp, hf, hb, ht⟩ := hrel
    have hlf := blk_lt hf
    by_cases hi : i < 3
    · have hc : wr.cell? ⟨W4.heap.size, i, none⟩ = fnV[i]? := blk_cell hf i
      have hia := fun W => idx_fn3 3 i W4.heap.size W hi
      by_cases h0 : e = 0
      · have hq : (e == 0) = true := by rw [h0]; rfl
        have HRW := Lib.hid (hrd.out h0)
        have hz0 : errAt E2 E3 E4 E5 i = 0 := he.out.symm.trans h0
        have HF0z := Lib.hid (errAt_zero (show i < 4 by omega) hz0)
        have HZ := Lib.hid hz0
        clear hrd he hz0 h0
        match i, hi with
        | 0, _ =>
          replace hc : wr.cell? ⟨W4.heap.size, 0, none⟩ = some (.func (.func 20) #[] #[]) := hc
          go_wp2_with (go_at_call 20; (with_reducible refine (HM3.out _ _ HRW.out ht.out).mono ?_); rintro e W5 ⟨rfl, m5, t5⟩; have HM := Lib.hid m5; have HTT := Lib.hid t5; clear m5 t5)
          go_roundw
          case rel => exact ⟨1, E3, by go_num, by omega, rfl, Lib.hid (errAt_1 HZ.out), Lib.hid HTT.out, (HM.out.block _ (blk_lt hp) (by omega)).trans hp, (HM.out.block _ hlf (by omega)).trans hf, hb.trans (HM.out.below (by omega) |>.mono (by omega)), Lib.hid (HM.out.lenVar ht.out (by omega))⟩
          case measure => simp [RowKit.intOf]
        | 1, _ =>
          replace hc : wr.cell? ⟨W4.heap.size, 1, none⟩ = some (.func (.func 21) #[] #[]) := hc
          have HM4' := Lib.hid (HM4.out (HZE.out HF0z.out))
          go_wp2_with (go_at_call 21; (with_reducible refine (HM4'.out _ _ HRW.out).mono ?_); rintro e W5 ⟨rfl, m5, t5⟩; have HM := Lib.hid m5; have HTT := Lib.hid t5; clear m5 t5)
          go_roundw
          case rel => exact ⟨2, E4, by go_num, by omega, rfl, Lib.hid (errAt_2 HZ.out), Lib.hid HTT.out, (HM.out.block _ (blk_lt hp) (by omega)).trans hp, (HM.out.block _ hlf (by omega)).trans hf, hb.trans (HM.out.below (by omega) |>.mono (by omega)), Lib.hid (HM.out.lenVar ht.out (by omega))⟩
          case measure => simp [RowKit.intOf]
        | 2, _ =>
          replace hc : wr.cell? ⟨W4.heap.size, 2, none⟩ = some (.func (.func 22) #[] #[]) := hc
          go_wp2_with (go_at_call 22; (with_reducible refine (HM5.out _ _ HRW.out).mono ?_); rintro e W5 ⟨rfl, m5, t5⟩; have HM := Lib.hid m5; have HTT := Lib.hid t5; clear m5 t5)
          go_roundw
          case rel => exact ⟨3, E5, by go_num, by omega, rfl, Lib.hid (errAt_3 HZ.out), Lib.hid (fun _ => HTT.out), (HM.out.block _ (blk_lt hp) (by omega)).trans hp, (HM.out.block _ hlf (by omega)).trans hf, hb.trans (HM.out.below (by omega) |>.mono (by omega)), Lib.hid (HM.out.lenVar ht.out (by omega))⟩
          case measure => simp [RowKit.intOf]
      · have HN0 := Lib.hid h0
        have hq : (e == 0) = false := beq_eq_false_iff_ne.2 h0
        obtain ⟨fv, hfv⟩ : ∃ fv, fnV[i]? = some fv := ⟨_, Array.getElem?_eq_getElem (xs := fnV) (show i < fnV.size from hi)⟩
        rw [hfv] at hc
        clear h0 hfv
        go_wp2
        go_roundw
        case rel => exact ⟨i + 1, e, by go_num, by omega, rfl, Lib.hid (by rw [errAt_keep hi (by rw [← he.out]; exact HN0.out)]; exact he.out), Lib.hid (fun h0 => absurd h0 HN0.out), hp, hf, hb, ht⟩
        case measure => simp [RowKit.intOf]; omega
    · obtain rfl : i = 3 := by omega
      have HPP := Lib.hid hp
      have HBB := Lib.hid hb
      have HEE : Hid (F = e) := Lib.hid (hF.trans he.out.symm)
      have hq : (e != 0) = true := bne_iff_ne.2 (by rw [← HEE.out]; exact hne)
      clear hrd he hi hf hp hb hF hne
      go_wp2_with ((with_reducible refine gate_store (t := 25) (p := 2) rfl ?_); refine store_row_event rfl rfl rfl w.heap.size (patR rd0) (patR rd0) 25 rfl rfl HPP.out (by kernel_rfl) rfl (patR_one _) ?_)
      refine bodyPost_ret (results_cell_tmp rfl _ _ w.heap.size 25 (patR rd0) (0, 0) _ rfl (setRow_heap _ _ _ _ _ _ HPP.out) rfl rfl (by kernel_rfl)) rfl ⟨?_, below_row HBB.out (Nat.le_refl _)⟩
      rw [HEE.out]
      rfl
set_option maxHeartbeats 8000000 in
set_option maxRecDepth 1000000 in
theorem parse_ok (s ex s0 : ByteArray) (sc : Bool) (E1 E2 E3 E4 E5 : Int) (w : World) (hT : Tabs w)
    (HC : Hid (∀ W, Tabs W → Calls Tryd.prog 17 #[.string s, .string ⟨#[69]⟩] W fun e w' => e = .returned (.tuple #[.string s0, .string ex, .bool sc]) ∧ Below W.heap.size W w'))
    (HR : Hid (r1 s = { rd0 with ex := ex, sc := sc }))
    (HM1 : Hid (∀ (b : Nat) (W : World), IsRd W b (r1 s) → Calls Tryd.prog 18 #[.pointer (some ⟨b, 0, none⟩)] W fun e w' => e = .returned (.int .i64 E1) ∧ Mid b W w' ∧ Then E1 (IsRd w' b (r2 s))))
    (HM2 : Hid (∀ (b : Nat) (W : World), IsRd W b (r2 s) → Tabs W → Calls Tryd.prog 19 #[.pointer (some ⟨b, 0, none⟩), .string s0] W fun e w' => e = .returned (.int .i64 E2) ∧ Mid b W w' ∧ Then E2 (IsRd w' b (r3 s))))
    (HM3 : Hid (∀ (b : Nat) (W : World), IsRd W b (r3 s) → Tabs W → Calls Tryd.prog 20 #[.pointer (some ⟨b, 0, none⟩)] W fun e w' => e = .returned (.int .i64 E3) ∧ Mid b W w' ∧ Then E3 (IsRd w' b (r4 s))))
    (HM4 : Hid (E2 = 0 → ∀ (b : Nat) (W : World), IsRd W b (r4 s) → Calls Tryd.prog 21 #[.pointer (some ⟨b, 0, none⟩)] W fun e w' => e = .returned (.int .i64 E4) ∧ Mid b W w' ∧ Then E4 (IsRd w' b (r5 s))))
    (HM5 : Hid (∀ (b : Nat) (W : World), IsRd W b (r5 s) → Calls Tryd.prog 22 #[.pointer (some ⟨b, 0, none⟩)] W fun e w' => e = .returned (.int .i64 E5) ∧ Mid b W w' ∧ IsRd w' b (r5 s)))
    (hE : errAt E2 E3 E4 E5 3 = 0) (h1 : E1 = 0) :
    Calls Tryd.prog 10 #[.string s] w fun e w' => e = .returned (.tuple #[.agg (patR (r5 s)), .int .i64 0]) ∧ Below w.heap.size w w' := by
  have hlen : 0 < w.heap.size := by
    obtain ⟨m, hm⟩ := hT
    exact World.block_lt_of_cell? w _ hm
  obtain ⟨W1, hW1⟩ : ∃ W1, W1 = (w.alloc (.cells #[.slice none 0 0, .slice none 0 0, .bool false, .slice none 0 0, .slice none 0 0, .int .i64 0, .int .i64 0, .int .i64 0, .int .i64 0, .int .i64 0, .int .i64 0, .int .i64 0, .int .i64 0, .string ⟨#[]⟩, .bool false, .int .i64 0, .bool false, .int .i64 0, .int .i32 0, .int .i64 0] 25)).alloc (.cells #[.string ⟨#[]⟩, .string ⟨#[]⟩, .string ⟨#[]⟩, .bool false, .bool false, .slice none 0 0, .slice none 0 0, .bool false, .slice none 0 0, .slice none 0 0, .int .i64 0, .int .i64 0, .int .i64 0, .int .i64 0, .int .i64 0, .int .i64 0, .int .i64 0, .int .i64 0, .string ⟨#[]⟩, .bool false, .int .i64 0, .bool false, .int .i64 0, .int .i32 0, .int .i64 0] 38) := ⟨_, rfl⟩
  have hs1 : W1.heap.size = w.heap.size + 1 + 1 := by rw [hW1]; show ((w.heap.push _).push _).size = _; simp
  have hb1 : Below w.heap.size w W1 := by rw [hW1]; exact below_alloc (below_alloc (Below.refl _ w) _) _
  have hR1 : IsRd W1 (w.heap.size + 1) rd0 := by
    have e : (w.alloc (.cells #[.slice none 0 0, .slice none 0 0, .bool false, .slice none 0 0, .slice none 0 0, .int .i64 0, .int .i64 0, .int .i64 0, .int .i64 0, .int .i64 0, .int .i64 0, .int .i64 0, .int .i64 0, .string ⟨#[]⟩, .bool false, .int .i64 0, .bool false, .int .i64 0, .int .i32 0, .int .i64 0] 25)).heap.size = w.heap.size + 1 := by show (w.heap.push _).size = _; simp
    rw [hW1, ← e]
    exact heap_alloc_new _ _
  have hP1 : W1.heap[w.heap.size]? = some (.cells (patR rd0) 25 (0, 0)) := by
    rw [hW1]
    exact (Below.heap_alloc _ _ _ (by show _ < (w.heap.push _).size; simp)).trans (heap_alloc_new w _)
  have HW1 := Lib.hid hW1
  have HT1 := Lib.hid (Tabs_below hT hb1)
  have HB1 := Lib.hid hb1
  have HR1 := Lib.hid hR1
  have HP1 := Lib.hid hP1
  clear hT hW1 hb1 hR1 hP1
  have hne1 : (E1 == 0) = true := by rw [h1]; rfl
  have HN1 := Lib.hid h1
  have HZE : Hid (E2 = 0 → E2 = 0) := Lib.hid fun h0 => h0
  clear h1
  go_enter Tryd.func10, Tryd.ntmps10
  go_wp2_with (first
    | (go_at_call 17; rw [← HW1.out]; (with_reducible refine (HC.out _ HT1.out).mono ?_); rintro e W2 ⟨rfl, b2⟩; have HB2 := Lib.hid (below_step HB1.out b2); have hs2 := b2.size; have HT2 := Lib.hid (Tabs_below HT1.out b2); have HR2 := Lib.hid (heap_keeps b2 HR1.out); have HP2 := Lib.hid (heap_keeps b2 HP1.out); have hrf := blk_frozen HR2.out; have hk2 : W2.cell? ⟨w.heap.size + 1, 2, none⟩ = some (.string ⟨#[]⟩) := blk_cell HR2.out 2; have hk4 : W2.cell? ⟨w.heap.size + 1, 4, none⟩ = some (.bool false) := blk_cell HR2.out 4)
    | (go_at_call 18; (with_reducible refine (HM1.out _ _ (by rw [HR.out]; exact set_exp HR2.out ex sc)).mono ?_); rintro e W3 ⟨rfl, m3, t3⟩; have HM3w := Lib.hid (((Mid.refl (w.heap.size + 1) W2).set 2 (.string ex)).set 4 (.bool sc) |>.trans m3); have HT3w := Lib.hid t3; clear m3 t3)
    | (go_at_call 19; (with_reducible refine (HM2.out _ _ (Then.get HT3w.out HN1.out) (HM3w.out.lenVar HT2.out (by omega))).mono ?_); rintro e W4 ⟨rfl, m4, t4⟩; have HM4w := Lib.hid m4; have HT4w := Lib.hid t4; clear m4 t4))
  have hs3 := (HM3w.out.trans HM4w.out).size
  have HBS : Hid (Below w.heap.size w W4) := Lib.hid (HB2.out.trans (((HM3w.out.trans HM4w.out).below (by omega)).mono (by omega)))
  have HRS : Hid (Then E2 (IsRd W4 (w.heap.size + 1) (r3 s))) := Lib.hid HT4w.out
  have HPS : Hid (W4.heap[w.heap.size]? = some (.cells (patR rd0) 25 (0, 0))) := Lib.hid (((HM3w.out.trans HM4w.out).block _ (blk_lt HP2.out) (by omega)).trans HP2.out)
  have HTS : Hid (Tabs W4) := Lib.hid ((HM3w.out.trans HM4w.out).lenVar HT2.out (by omega))
  have hfl : w.heap.size + 1 < W4.heap.size := by omega
  have HF0 : Hid ((W4.alloc (.cells fnV 43)).heap[W4.heap.size]? = some (.cells fnV 43 (0, 0))) := Lib.hid (heap_alloc_new _ _)
  have hbA : Below W4.heap.size W4 (W4.alloc (.cells fnV 43)) := (Below.refl _ _).alloc (Nat.le_refl _) _
  have HBA := Lib.hid (below_step HBS.out hbA)
  have HRA : Hid (Then E2 (IsRd (W4.alloc (.cells fnV 43)) (w.heap.size + 1) (r3 s))) := Lib.hid fun h0 => heap_keeps hbA (HRS.out h0)
  have HPA := Lib.hid (heap_keeps hbA HPS.out)
  have HTA := Lib.hid (Tabs_below HTS.out hbA)
  clear hbA
  go_loopw [5, 31] (fun v5 v31 wx => ∃ (i : Nat) (e : Int), v31 = .int .i64 i ∧ i ≤ 3 ∧ v5 = .int .i64 e ∧ Hid (e = errAt E2 E3 E4 E5 i) ∧ Hid (Then e (IsRd wx (w.heap.size + 1) (rdAt s i))) ∧ wx.heap[w.heap.size]? = some (.cells (patR rd0) 25 (0, 0)) ∧ wx.heap[W4.heap.size]? = some (.cells fnV 43 (0, 0)) ∧ Below w.heap.size w wx ∧ Hid (Tabs wx)) (fun v5 v31 wx => 3 - (RowKit.intOf v31).toNat)
  case atStart => exact ⟨0, E2, rfl, by omega, rfl, Lib.hid rfl, HRA, HPA.out, HF0.out, HBA.out, HTA⟩
  case round =>
    obtain ⟨i, e, rfl, hi3, rfl, he, hrd, hp, hf, hb, ht⟩ := hrel
    have hlf := blk_lt hf
    by_cases hi : i < 3
    · have hc : wr.cell? ⟨W4.heap.size, i, none⟩ = fnV[i]? := blk_cell hf i
      have hia := fun W => idx_fn3 3 i W4.heap.size W hi
      by_cases h0 : e = 0
      · have hq : (e == 0) = true := by rw [h0]; rfl
        have HRW := Lib.hid (hrd.out h0)
        have hz0 : errAt E2 E3 E4 E5 i = 0 := he.out.symm.trans h0
        have HF0z := Lib.hid (errAt_zero (show i < 4 by omega) hz0)
        have HZ := Lib.hid hz0
        clear hrd he hz0 h0
        match i, hi with
        | 0, _ =>
          replace hc : wr.cell? ⟨W4.heap.size, 0, none⟩ = some (.func (.func 20) #[] #[]) := hc
          go_wp2_with (go_at_call 20; (with_reducible refine (HM3.out _ _ HRW.out ht.out).mono ?_); rintro e W5 ⟨rfl, m5, t5⟩; have HM := Lib.hid m5; have HTT := Lib.hid t5; clear m5 t5)
          go_roundw
          case rel => exact ⟨1, E3, by go_num, by omega, rfl, Lib.hid (errAt_1 HZ.out), Lib.hid HTT.out, (HM.out.block _ (blk_lt hp) (by omega)).trans hp, (HM.out.block _ hlf (by omega)).trans hf, hb.trans (HM.out.below (by omega) |>.mono (by omega)), Lib.hid (HM.out.lenVar ht.out (by omega))⟩
          case measure => simp [RowKit.intOf]
        | 1, _ =>
          replace hc : wr.cell? ⟨W4.heap.size, 1, none⟩ = some (.func (.func 21) #[] #[]) := hc
          have HM4' := Lib.hid (HM4.out (HZE.out HF0z.out))
          go_wp2_with (go_at_call 21; (with_reducible refine (HM4'.out _ _ HRW.out).mono ?_); rintro e W5 ⟨rfl, m5, t5⟩; have HM := Lib.hid m5; have HTT := Lib.hid t5; clear m5 t5)
          go_roundw
          case rel => exact ⟨2, E4, by go_num, by omega, rfl, Lib.hid (errAt_2 HZ.out), Lib.hid HTT.out, (HM.out.block _ (blk_lt hp) (by omega)).trans hp, (HM.out.block _ hlf (by omega)).trans hf, hb.trans (HM.out.below (by omega) |>.mono (by omega)), Lib.hid (HM.out.lenVar ht.out (by omega))⟩
          case measure => simp [RowKit.intOf]
        | 2, _ =>
          replace hc : wr.cell? ⟨W4.heap.size, 2, none⟩ = some (.func (.func 22) #[] #[]) := hc
          go_wp2_with (go_at_call 22; (with_reducible refine (HM5.out _ _ HRW.out).mono ?_); rintro e W5 ⟨rfl, m5, t5⟩; have HM := Lib.hid m5; have HTT := Lib.hid t5; clear m5 t5)
          go_roundw
          case rel => exact ⟨3, E5, by go_num, by omega, rfl, Lib.hid (errAt_3 HZ.out), Lib.hid (fun _ => HTT.out), (HM.out.block _ (blk_lt hp) (by omega)).trans hp, (HM.out.block _ hlf (by omega)).trans hf, hb.trans (HM.out.below (by omega) |>.mono (by omega)), Lib.hid (HM.out.lenVar ht.out (by omega))⟩
          case measure => simp [RowKit.intOf]
      · have HN0 := Lib.hid h0
        exact absurd hE (errAt_up (show i < 4 by omega) (by rw [← he.out]; exact HN0.out))
    · obtain rfl : i = 3 := by omega
      have HPP := Lib.hid hp
      have HBB := Lib.hid hb
      have h0 : e = 0 := he.out.trans hE
      have hq : (e != 0) = false := by rw [h0]; rfl
      have HRW : Hid (IsRd wr (w.heap.size + 1) (r5 s)) := Lib.hid (hrd.out h0)
      clear hrd he h0 hi hf hp hb hE
      go_wp2_with (first
        | ((with_reducible refine gate_dst (N := 48) rfl ?_); refine wpList_load_mid rfl 25 (.tmp 47) rfl (w.heap.size + 1) 5 rfl (patR (r5 s)).toList _ (rd_range HRW.out) Tryd.underlying25 rfl (by kernel_rfl) ?_)
        | ((with_reducible refine gate_store (t := 25) (p := 2) rfl ?_); refine store_row_event rfl rfl rfl w.heap.size (patR (r5 s)) (patR rd0) 25 rfl rfl HPP.out (by kernel_rfl) rfl (patR_one _) ?_))
      refine bodyPost_ret (results_cell_tmp rfl _ _ w.heap.size 25 (patR (r5 s)) (0, 0) _ rfl (setRow_heap _ _ _ _ _ _ HPP.out) rfl rfl (by kernel_rfl)) rfl ⟨rfl, below_row HBB.out (Nat.le_refl _)⟩
end Go.Proofs.YtgobcejjefgkcaaDoor.Print
