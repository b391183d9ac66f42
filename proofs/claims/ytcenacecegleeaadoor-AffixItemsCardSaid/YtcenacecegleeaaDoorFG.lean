/- Package affix's sign and mark: what they answer, as plain functions, and their contracts. -/
import Derived.Test.YtcenacecegleeaaDoorFU
import Derived.LoopN
namespace Go.Proofs.YtcenacecegleeaaDoor.Print
open Go.RowKit Go.Proofs.YtcenacecegleeaaDoor.Utf Go.Proofs.YtcenacecegleeaaDoorW.PrintWords Go.Proofs.YtcenacecegleeaaDoorW.PrintLast Go.Proofs.YtcenacecegleeaaDoorW.PrintMore
set_option linter.unusedVariables false
set_option linter.unusedSimpArgs false

/-- The signs' characters, in their order. -/
def sgnCh (i : Nat) : Int := [45, 43, 37, 8240, 164].getD i 0
def sgn (r : Int) : Int := if r = 45 then 2 else if r = 43 then 3 else if r = 37 then 4 else if r = 8240 then 5 else if r = 164 then 6 else 0
def affix_sign.f (r : Int) : Option Int := some (sgn r)
theorem sgn_at (i : Nat) (hi : i < 5) (r : Int) (h : sgnCh i = r) : sgn r = (i : Int) + 2 := by
  subst h
  match i, hi with
  | 0, _ => rfl
  | 1, _ => rfl
  | 2, _ => rfl
  | 3, _ => rfl
  | 4, _ => rfl
theorem sgn_none (r : Int) (h : ∀ i, i < 5 → sgnCh i ≠ r) : sgn r = 0 := by
  have h0 := h 0 (by omega)
  have h1 := h 1 (by omega)
  have h2 := h 2 (by omega)
  have h3 := h 3 (by omega)
  have h4 := h 4 (by omega)
  simp only [sgnCh, List.getD_cons_zero, List.getD_cons_succ] at h0 h1 h2 h3 h4
  unfold sgn
  rw [if_neg (by omega), if_neg (by omega), if_neg (by omega), if_neg (by omega), if_neg (by omega)]
theorem sgn_idx (i : Nat) (hi : i < 5) (W : World) : (Instr.index 47 (.agg signsV) (.int .i64 (i : Int))).run Tryd.prog W = .ok (.agg #[.int .i64 ((i : Int) + 2), .int .i32 (sgnCh i)]) W := by
  match i, hi with
  | 0, _ =>
    show (Instr.index 47 (.agg signsV) (.int .i64 0)).run Tryd.prog W = .ok (.agg #[.int .i64 2, .int .i32 45]) W
    kernel_rfl
  | 1, _ =>
    show (Instr.index 47 (.agg signsV) (.int .i64 1)).run Tryd.prog W = .ok (.agg #[.int .i64 3, .int .i32 43]) W
    kernel_rfl
  | 2, _ =>
    show (Instr.index 47 (.agg signsV) (.int .i64 2)).run Tryd.prog W = .ok (.agg #[.int .i64 4, .int .i32 37]) W
    kernel_rfl
  | 3, _ =>
    show (Instr.index 47 (.agg signsV) (.int .i64 3)).run Tryd.prog W = .ok (.agg #[.int .i64 5, .int .i32 8240]) W
    kernel_rfl
  | 4, _ =>
    show (Instr.index 47 (.agg signsV) (.int .i64 4)).run Tryd.prog W = .ok (.agg #[.int .i64 6, .int .i32 164]) W
    kernel_rfl
set_option maxHeartbeats 4000000 in
set_option maxRecDepth 1000000 in
theorem affix_sign.calls (a0 : Int) (r : Int) (w : World) (hT : Tabs w) (h : affix_sign.f a0 = some r) :
    Calls Tryd.prog 23 #[.int .i32 a0] w fun e w' => e = .returned (.int .i64 r) ∧ Below w.heap.size w w' := by
  have HR : Hid (sgn a0 = r) := Lib.hid (Option.some.inj h)
  obtain ⟨tt, fr, hs⟩ := hT.2
  have c0 : w.cell? ⟨0, 0, none⟩ = some (.int .i64 2) := (cell_of_row w _ 0 _ _ _ hs).trans rfl
  have c1 : w.cell? ⟨0, 1, none⟩ = some (.int .i32 45) := (cell_of_row w _ 1 _ _ _ hs).trans rfl
  have c2 : w.cell? ⟨0, 2, none⟩ = some (.int .i64 3) := (cell_of_row w _ 2 _ _ _ hs).trans rfl
  have c3 : w.cell? ⟨0, 3, none⟩ = some (.int .i32 43) := (cell_of_row w _ 3 _ _ _ hs).trans rfl
  have c4 : w.cell? ⟨0, 4, none⟩ = some (.int .i64 4) := (cell_of_row w _ 4 _ _ _ hs).trans rfl
  have c5 : w.cell? ⟨0, 5, none⟩ = some (.int .i32 37) := (cell_of_row w _ 5 _ _ _ hs).trans rfl
  have c6 : w.cell? ⟨0, 6, none⟩ = some (.int .i64 5) := (cell_of_row w _ 6 _ _ _ hs).trans rfl
  have c7 : w.cell? ⟨0, 7, none⟩ = some (.int .i32 8240) := (cell_of_row w _ 7 _ _ _ hs).trans rfl
  have c8 : w.cell? ⟨0, 8, none⟩ = some (.int .i64 6) := (cell_of_row w _ 8 _ _ _ hs).trans rfl
  have c9 : w.cell? ⟨0, 9, none⟩ = some (.int .i32 164) := (cell_of_row w _ 9 _ _ _ hs).trans rfl
  clear h hT hs
  go_enter Tryd.func23, Tryd.ntmps23
  go_wp2
  clear c0 c1 c2 c3 c4 c5 c6 c7 c8 c9
  go_loopw [6] (fun v6 wr => ∃ i : Nat, v6 = .int .i64 i ∧ i ≤ 5 ∧ Below w.heap.size w wr ∧ Hid (∀ j, j < i → sgnCh j ≠ a0)) (fun v6 wr => 5 - (RowKit.intOf v6).toNat)
  case atStart => exact ⟨0, rfl, by omega, Below.refl _ w, Lib.hid (fun j hj => by omega)⟩
  case round =>
    obtain ⟨i, rfl, hi5, hbw, hno⟩ := hrel
    have hsz := hbw.size
    by_cases hi : i < 5
    · have hix := fun W => sgn_idx i hi W
      simp only [signsV] at hix
      by_cases hc : sgnCh i = a0
      · have hq : (sgnCh i == a0) = true := by rw [hc]; exact beq_self_eq_true a0
        have HC := Lib.hid hc
        clear hc
        go_wp2
        go_ret
        exact ⟨ret_int (by rw [← HR.out]; exact (sgn_at i hi a0 HC.out).symm), hbw.alloc hsz _⟩
      · have hq : (sgnCh i == a0) = false := beq_eq_false_iff_ne.2 hc
        have HC := Lib.hid hc
        clear hc
        go_wp2
        go_roundw
        case rel =>
          refine ⟨i + 1, by go_num, by omega, hbw.alloc hsz _, Lib.hid (fun j hj => ?_)⟩
          rcases Nat.lt_or_ge j i with h | h
          · exact hno.out j h
          · rw [show j = i by omega]; exact HC.out
        case measure => simp [RowKit.intOf]; omega
    · have hie : i = 5 := by omega
      subst hie
      go_wp2
      go_ret
      exact ⟨ret_int (by rw [← HR.out]; exact (sgn_none a0 hno.out).symm), hbw⟩

/-! ### mark -/
def marksL : List UInt8 := [35, 48, 49, 50, 51, 52, 53, 54, 55, 56, 57, 64, 44, 46, 59, 42]
def marksS : ByteArray := ⟨#[35, 48, 49, 50, 51, 52, 53, 54, 55, 56, 57, 64, 44, 46, 59, 42]⟩
def markB (r : Int) : Bool := decide ((48 ≤ r ∧ r ≤ 57) ∨ r = 35 ∨ r = 64 ∨ r = 44 ∨ r = 46 ∨ r = 59 ∨ r = 42)
def affix_mark.f (r : Int) : Option Bool := some (markB r)
theorem marks_dec : ∀ p : Fin 16, Utf8.decode marksS p.1 = ((marksL.getD p.1 0).toNat, 1) := by decide +kernel
theorem mark_yes : ∀ p : Fin 16, markB ((marksL.getD p.1 0).toNat : Int) = true := by decide +kernel
theorem mark_no (r : Int) (h : ∀ j, j < 16 → ((marksL.getD j 0).toNat : Int) ≠ r) : markB r = false := by
  unfold markB
  apply decide_eq_false
  have h0 : (35 : Int) ≠ r := h 0 (by omega)
  have h1 : (48 : Int) ≠ r := h 1 (by omega)
  have h2 : (49 : Int) ≠ r := h 2 (by omega)
  have h3 : (50 : Int) ≠ r := h 3 (by omega)
  have h4 : (51 : Int) ≠ r := h 4 (by omega)
  have h5 : (52 : Int) ≠ r := h 5 (by omega)
  have h6 : (53 : Int) ≠ r := h 6 (by omega)
  have h7 : (54 : Int) ≠ r := h 7 (by omega)
  have h8 : (55 : Int) ≠ r := h 8 (by omega)
  have h9 : (56 : Int) ≠ r := h 9 (by omega)
  have h10 : (57 : Int) ≠ r := h 10 (by omega)
  have h11 : (64 : Int) ≠ r := h 11 (by omega)
  have h12 : (44 : Int) ≠ r := h 12 (by omega)
  have h13 : (46 : Int) ≠ r := h 13 (by omega)
  have h14 : (59 : Int) ≠ r := h 14 (by omega)
  have h15 : (42 : Int) ≠ r := h 15 (by omega)
  omega
theorem ret_boolG {a b : Bool} (h : a = b) : Ending.returned (.bool a) = .returned (.bool b) := by rw [h]

set_option maxHeartbeats 4000000 in
set_option maxRecDepth 1000000 in
theorem affix_mark.calls (a0 : Int) (r : Bool) (w : World) (h : affix_mark.f a0 = some r) :
    Calls Tryd.prog 24 #[.int .i32 a0] w fun e w' => e = .returned (.bool r) ∧ Below w.heap.size w w' := by
  have HR : Hid (markB a0 = r) := Lib.hid (Option.some.inj h)
  clear h
  go_enter Tryd.func24, Tryd.ntmps24
  go_wp2
  go_loopw [] (fun wr => ∃ pos : Nat, wr.heap[w.heap.size]? = some (.stringIter marksS pos) ∧ Below w.heap.size w wr ∧ pos ≤ 16 ∧ Hid (∀ j, j < pos → ((marksL.getD j 0).toNat : Int) ≠ a0)) (fun wr => 16 - wr.iterPos w.heap.size)
  case atStart =>
    refine ⟨0, ?_, (Below.refl _ w).alloc (Nat.le_refl _) _, by omega, Lib.hid (fun j hj => by omega)⟩
    have := World.iter_heap w marksS 0
    exact (by simpa using this : (w.iter marksS 0).heap[w.heap.size]? = _)
  case round =>
    obtain ⟨pos, hit, hbw, hp16, hno⟩ := hrel
    have hsz : w.heap.size < wr.heap.size := (Array.getElem?_eq_some_iff.1 hit).1
    have hms : marksS.size = 16 := rfl
    by_cases hp : pos < 16
    · have hd := marks_dec ⟨pos, hp⟩
      simp only at hd
      obtain ⟨c, hc⟩ : ∃ c : Nat, c = (marksL.getD pos 0).toNat := ⟨_, rfl⟩
      have hnx : ∀ ty, (Instr.next (.pointer (some ⟨w.heap.size, 0, none⟩)) true ty).run Tryd.prog wr = _ := fun ty => Lib.run_next_any_at wr w.heap.size marksS pos ty hit (by rw [hms]; exact hp)
      have hit2 := Lib.iterAt_heap wr w.heap.size marksS pos (pos + 1) hit
      have hbw2 := Lib.below_iterAt hbw (k := w.heap.size) (by omega) marksS (pos + 1)
      rw [hd, ← hc] at hnx
      have HC := Lib.hid hc
      clear hd hc hms
      by_cases hca : (c : Int) = a0
      · have hq : ((c : Int) == a0) = true := by rw [hca]; exact beq_self_eq_true a0
        have HA := Lib.hid hca
        clear hca
        go_wp2
        go_ret
        refine ⟨ret_boolG ?_, hbw2⟩
        have := mark_yes ⟨pos, hp⟩
        rw [← HR.out, ← HA.out, HC.out]
        exact this.symm
      · have hq : ((c : Int) == a0) = false := beq_eq_false_iff_ne.2 hca
        have HA := Lib.hid hca
        clear hca
        go_wp2
        go_roundw
        case rel =>
          refine ⟨pos + 1, hit2, hbw2, by omega, Lib.hid (fun j hj => ?_)⟩
          rcases Nat.lt_or_ge j pos with h | h
          · exact hno.out j h
          · rw [show j = pos by omega, ← HC.out]; exact HA.out
        case measure =>
          simp only [World.iterPos, hit2, hit]
          omega
    · have hpe : pos = 16 := by omega
      subst hpe
      have hnx : ∀ ty, (Instr.next (.pointer (some ⟨w.heap.size, 0, none⟩)) true ty).run Tryd.prog wr = _ := fun ty => Lib.run_next_end_at wr w.heap.size marksS 16 ty hit (by rw [hms]; omega)
      clear hms
      go_wp2
      go_ret
      exact ⟨ret_boolG (by rw [← HR.out]; exact (mark_no a0 hno.out).symm), hbw⟩
end Go.Proofs.YtcenacecegleeaaDoor.Print
