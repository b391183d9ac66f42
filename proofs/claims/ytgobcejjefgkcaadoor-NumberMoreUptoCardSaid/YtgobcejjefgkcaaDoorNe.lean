/- The reader of package number: groups. -/
import Derived.Test.YtgobcejjefgkcaaDoorNd
import Derived.Lib.SplitLaws
import Derived.Lib.Join
namespace Go.Proofs.YtgobcejjefgkcaaDoor.Print
open Go.RowKit Go.Proofs.YtgobcejjefgkcaaDoorW.PrintWords Go.Proofs.YtgobcejjefgkcaaDoorW.PrintLast Go.Proofs.YtgobcejjefgkcaaDoorW.PrintMore
set_option linter.unusedVariables false
set_option linter.unusedSimpArgs false

theorem splitK_N (c : UInt8) : ∀ (s : List UInt8) (k : Nat), s.count c ≤ k → Lib.splitK [c] 0 k s = N.splitC c s
  | [], k, _ => by
    cases k with
    | zero => rfl
    | succ k => simp [Lib.splitK, Lib.index, N.splitC]
  | b :: l, k, hk => by
    by_cases hb : b = c
    · subst hb
      rw [List.count_cons_self] at hk
      obtain ⟨k, rfl⟩ : ∃ j, k = j + 1 := ⟨k - 1, by omega⟩
      have hi : Lib.index (b :: l) [b] = 0 := by simp [Lib.index]
      simp only [Lib.splitK, hi, N.splitC]
      rw [if_neg (by decide), if_pos trivial]
      have := splitK_N b l k (by omega)
      simpa using this
    · rw [List.count_cons_of_ne hb] at hk
      cases k with
      | zero =>
        have hf : c ∉ b :: l := fun hx => by
          rcases List.mem_cons.1 hx with e | hx
          · exact hb e.symm
          · exact absurd (List.count_pos_iff.2 hx) (by omega)
        rw [N.splitC_free c (b :: l) hf]
        rfl
      | succ k =>
        have ih := splitK_N c l (k + 1) hk
        have hp : ([c].isPrefixOf (b :: l)) = false := by simp [List.isPrefixOf]; exact fun e => hb e.symm
        have hi : Lib.index (b :: l) [c] = if Lib.index l [c] == -1 then -1 else Lib.index l [c] + 1 := by
          rw [Lib.index, hp]; rfl
        simp only [Lib.splitK] at ih ⊢
        simp only [N.splitC]
        rw [if_neg hb, hi]
        by_cases hm : Lib.index l [c] = -1
        · rw [hm] at ih ⊢
          rw [if_pos (by decide)] at ih
          rw [if_pos (by decide), ← ih]
        · have hge := Lib.index_ge l [c]
          have hm2 : (Lib.index l [c] == -1) = false := beq_eq_false_iff_ne.2 hm
          rw [hm2] at ih ⊢
          have hm3 : (Lib.index l [c] + 1 == -1) = false := beq_eq_false_iff_ne.2 (by omega)
          simp only [Bool.false_eq_true, if_false, hm3] at ih ⊢
          rw [← ih]
          have e1 : (Lib.index l [c] + 1).toNat = (Lib.index l [c]).toNat + 1 := by omega
          rw [e1]
          simp [Nat.add_right_comm]
def partsOf (s : ByteArray) : List ByteArray := Lib.splitB ⟨#[44]⟩ 0 (Lib.countB s ⟨#[44]⟩) s
theorem partsOf_map (s : ByteArray) : (partsOf s).map N.L = N.splitC 44 (N.L s) := by
  unfold partsOf
  have := Lib.splitB_data ⟨#[44]⟩ 0 (Lib.countB s ⟨#[44]⟩) s
  refine this.trans ?_
  refine splitK_N 44 _ _ ?_
  unfold Lib.countB
  rw [show (⟨#[44]⟩ : ByteArray).data.toList = [44] from rfl, Lib.count_one]
  exact Nat.le_refl _
theorem partsOf_len (s : ByteArray) : (partsOf s).length = Lib.countB s ⟨#[44]⟩ + 1 := Lib.splitB_all ⟨#[44]⟩ (Nat.le_refl _) 0 _ s rfl
theorem split_calls (s : ByteArray) (w : World) (hT : Tabs w) (hs : s.size ≤ 1000000000) : Calls Tryd.prog 41 #[.string s, .string ⟨#[44]⟩] w fun e w' =>
    e = .returned (.slice (some ⟨w.heap.size, 0, none⟩) (partsOf s).length (partsOf s).length) ∧ w'.heap[w.heap.size]? = some (.cells ((partsOf s).map Value.string).toArray 9 (0, 0)) ∧ Below w.heap.size w w' := by
  obtain ⟨m, hm⟩ := hT
  refine (Tryd.strings_Split s ⟨#[44]⟩ m w (by omega) hm (Nat.le_refl _)).mono fun e w' ⟨he, hw⟩ => ?_
  subst hw
  refine ⟨?_, heap_alloc_new w _, (Below.refl _ w).alloc (Nat.le_refl _) _⟩
  rw [partsOf_len]
  exact he
theorem join_flat : ∀ (xs : List (List UInt8)), Lib.join xs [] = xs.flatten
  | [] => rfl
  | x :: r => by
    rw [Lib.join_cons]
    unfold Lib.joinTail
    simp
theorem join_calls (ps : List ByteArray) (bk : Nat) (W : World) (h : W.heap[bk]? = some (.cells (ps.map Value.string).toArray 9 (0, 0))) (h1 : ps.length ≤ 2000000000) (h2 : ((ps.map N.L).flatten).length ≤ 2000000000) :
    Calls Tryd.prog 43 #[.slice (some ⟨bk, 0, none⟩) ps.length ps.length, .string ⟨#[]⟩] W fun e w' => e = .returned (.string (mkB (ps.map N.L).flatten)) ∧ Below W.heap.size W w' := by
  have hj : (Lib.join (ps.map (·.data.toList)) (⟨#[]⟩ : ByteArray).data.toList) = (ps.map N.L).flatten := join_flat _
  have := Tryd.strings_Join bk 0 ps.length ps ⟨#[]⟩ W (fun j x hx => by rw [Nat.zero_add]; exact (blk_cell h j).trans (by simp [hx])) (blk_lt h) (by omega) (Nat.le_refl _) (by rw [hj]; omega)
  rw [hj] at this
  exact this
theorem idx_strs (n c i bk : Nat) (W : World) (hi : i < n) :
    (Instr.indexAt 63 (.slice (some ⟨bk, 0, none⟩) n c) (.int .i64 (i : Int))).run Tryd.prog W = .ok (.pointer (some ⟨bk, i, none⟩)) W := by
  have ht : Tryd.prog.underlying 63 = some (.slice (Tryd.prog.elem 63)) := by kernel_rfl
  have he : Tryd.prog.elem 63 = 9 := by kernel_rfl
  have hz : ∀ w, (Go.sizeOf 9).run Tryd.prog w = .ok 1 w := fun w => by kernel_rfl
  rw [run_indexAt_slice _ _ _ _ _ _ _ ht, he, if_pos ⟨by omega, by omega⟩, hz]
  simp [Result.andThen, Addr.add_lit]
theorem contains_calls (s : ByteArray) (c : UInt8) (w : World) : Calls Tryd.prog 42 #[.string s, .string ⟨#[c]⟩] w fun e w' => e = .returned (.bool (decide (c ∈ N.L s))) ∧ w' = w := by
  rw [← indexByte_mem]
  exact Tryd.strings_Contains_one s c w
def groupsR (r : RD) : RD := { r with wh := mkB (N.plainN (N.L r.wh)), pr := if 1 < (N.splitC 44 (N.L r.wh)).length then (N.primN (N.splitC 44 (N.L r.wh)) : Int) else r.pr, se := if 1 < (N.splitC 44 (N.L r.wh)).length then (N.secN (N.splitC 44 (N.L r.wh)) : Int) else r.se }
theorem set_wh {W : World} {b : Nat} {r : RD} (h : IsRd W b r) (x : ByteArray) : IsRd (W.setCell ⟨b, 0, none⟩ (.string x)) b { r with wh := x } := by
  rw [IsRd, blk_set h 0 _]
  simp [rdV]
theorem set_pr {W : World} {b : Nat} {r : RD} (h : IsRd W b r) (x : Int) : IsRd (W.setCell ⟨b, 16, none⟩ (.int .i64 x)) b { r with pr := x } := by
  rw [IsRd, blk_set h 16 _]
  simp [rdV]
theorem set_se {W : World} {b : Nat} {r : RD} (h : IsRd W b r) (x : Int) : IsRd (W.setCell ⟨b, 17, none⟩ (.int .i64 x)) b { r with se := x } := by
  rw [IsRd, blk_set h 17 _]
  simp [rdV]
theorem isE_iff (x : ByteArray) : x.toList.isEmpty = decide (N.L x = []) := by
  rw [Lib.toList_data]
  show (N.L x).isEmpty = _
  cases N.L x <;> simp

set_option maxHeartbeats 4000000 in
set_option maxRecDepth 1000000 in
theorem groups_calls (r : RD) (b : Nat) (w : World) (h : IsRd w b r) (hT : Tabs w) (hs : r.wh.size ≤ 1000000000) :
    Calls Tryd.prog 20 #[.pointer (some ⟨b, 0, none⟩)] w fun e w' => e = .returned (.int .i64 (N.groupsE (N.L r.wh) (N.L r.fr))) ∧ Mid b w w' ∧ Then (N.groupsE (N.L r.wh) (N.L r.fr)) (IsRd w' b (groupsR r)) := by
  obtain ⟨ps, hps⟩ : ∃ ps, ps = partsOf r.wh := ⟨_, rfl⟩
  have hpm : ps.map N.L = N.splitC 44 (N.L r.wh) := by rw [hps]; exact partsOf_map _
  have hsp := split_calls r.wh w hT hs
  rw [← hps] at hsp
  have hlt := blk_lt h
  have hc0 : w.cell? ⟨b, 0, none⟩ = some (.string r.wh) := blk_cell h 0
  have hn1 : 1 ≤ ps.length := by rw [hps, partsOf_len]; omega
  have hn2 : ps.length ≤ 1000000001 := by
    have e1 := congrArg List.length hpm
    rw [List.length_map, N.splitC_len] at e1
    have := N.filter_len 44 (N.L r.wh)
    rw [N.L_len] at this
    omega
  have hfl : ((ps.map N.L).flatten).length ≤ 2000000000 := by
    rw [hpm, N.splitC_flat]
    have := N.filter_len 44 (N.L r.wh)
    rw [N.L_len] at this
    omega
  have HJ : Hid (∀ W bk, _ → _) := Lib.hid fun (W : World) (bk : Nat) (hh : W.heap[bk]? = some (.cells (ps.map Value.string).toArray 9 (0, 0))) => join_calls ps bk W hh (by omega) hfl
  obtain ⟨rr, hrr⟩ : ∃ rr, rr = groupsR r := ⟨_, rfl⟩
  rw [← hrr]
  unfold groupsR N.plainN at hrr
  unfold N.groupsE
  rw [← hpm] at hrr ⊢
  rw [List.length_map] at hrr
  have HRR := Lib.hid hrr
  clear hrr
  have HSP := Lib.hid hsp
  have HH := Lib.hid h
  have hcn := fun W => contains_calls r.fr 44 W
  obtain ⟨cm, hcm⟩ : ∃ cm, cm = decide ((44 : UInt8) ∈ N.L r.fr) := ⟨_, rfl⟩
  rw [← hcm] at hcn
  have hcm2 : ((44 : UInt8) ∈ N.L r.fr) ↔ cm = true := by rw [hcm, decide_eq_true_iff]
  rw [List.length_map]
  by_cases hbad : 1 < ps.length ∧ [] ∈ ps.map N.L
  · -- an empty part
    rw [if_pos hbad]
    have HP : Hid (¬ ((5 : Int) = 0)) := Lib.hid (by decide)
    have hg1 : decide ((1 : Int) < (ps.length : Int)) = true := decide_eq_true (by omega)
    have HB := Lib.hid hbad
    clear hbad h hsp hT hps hpm hcm hcm2 hfl hs
    go_enter Tryd.func20, Tryd.ntmps20
    go_wp2_with (go_at_call 41; (with_reducible refine HSP.out.mono ?_); rintro e W1 ⟨rfl, hp1, b1⟩)
    go_loopw [14] (fun v14 wx => ∃ i : Nat, v14 = .int .i64 i ∧ i ≤ ps.length ∧ wx = W1 ∧ Hid (∀ j x, j < i → ps[j]? = some x → N.L x ≠ [])) (fun v14 wx => ps.length - (RowKit.intOf v14).toNat)
    case atStart => exact ⟨0, rfl, Nat.zero_le _, rfl, Lib.hid fun j x hj => absurd hj (by omega)⟩
    case round =>
      obtain ⟨i, rfl, hil, rfl, hno⟩ := hrel
      by_cases hi : i < ps.length
      · obtain ⟨x, hx⟩ := get_exS ps i hi
        have hia := fun W => idx_strs ps.length ps.length i w.heap.size W hi
        have hx0 : wr.cell? ⟨w.heap.size, i, none⟩ = some (.string x) := (blk_cell hp1 i).trans (by simp [hx])
        by_cases he : N.L x = []
        · have hxe : x.toList.isEmpty = true := by rw [isE_iff]; exact decide_eq_true he
          clear he hx
          go_wp2
          go_ret
          exact ⟨rfl, Mid.of b1, fun h0 => absurd h0 HP.out⟩
        · have hxe : x.toList.isEmpty = false := by rw [isE_iff]; exact decide_eq_false he
          have HN : Hid (∀ j y, j < i + 1 → ps[j]? = some y → N.L y ≠ []) := Lib.hid fun j y hj hy => by
            rcases Nat.lt_or_ge j i with h1 | h1
            · exact hno.out j y h1 hy
            · obtain rfl : j = i := by omega
              rw [hx] at hy
              obtain rfl := Option.some.inj hy
              exact he
          clear he hx hno
          go_wp2
          go_roundw
          case rel => exact ⟨i + 1, by go_num, by omega, (by first | trivial | rfl), HN⟩
          case measure => simp [RowKit.intOf]; omega
      · exfalso
        obtain ⟨x, hx, hxe⟩ := List.mem_map.1 HB.out.2
        obtain ⟨j, hj⟩ := List.getElem?_of_mem hx
        have hjl := (List.getElem?_eq_some_iff.1 hj).1
        exact hno.out j x (by omega) hj hxe
  · rw [if_neg hbad]
    have hok : ∀ j x, ps[j]? = some x → 1 < ps.length → N.L x ≠ [] := fun j x hx h1 hxe => hbad ⟨h1, List.mem_map.2 ⟨x, List.mem_of_getElem? hx, hxe⟩⟩
    have HO := Lib.hid hok
    have HPM := Lib.hid hpm
    cases cm with
    | true =>
      rw [if_pos (hcm2.2 rfl)]
      have HP : Hid (¬ ((5 : Int) = 0)) := Lib.hid (by decide)
      clear h hsp hT hps hpm hcm hcm2 hfl hs hok hbad
      go_enter Tryd.func20, Tryd.ntmps20
      go_wp2_with (first
        | (go_at_call 41; (with_reducible refine HSP.out.mono ?_); rintro e W1 ⟨rfl, hp1, b1⟩; have HR1 := Lib.hid (heap_keeps b1 HH.out); have HM1 := Lib.hid (Mid.of (b := b) b1); have hy1 : W1.cell? ⟨b, 1, none⟩ = some (.string r.fr) := blk_cell HR1.out 1))
      go_loopw [14] (fun v14 wx => ∃ i : Nat, v14 = .int .i64 i ∧ i ≤ ps.length ∧ wx = W1) (fun v14 wx => ps.length - (RowKit.intOf v14).toNat)
      case atStart => exact ⟨0, rfl, Nat.zero_le _, rfl⟩
      case round =>
        obtain ⟨i, rfl, hil, rfl⟩ := hrel
        by_cases hi : i < ps.length
        · obtain ⟨x, hx⟩ := get_exS ps i hi
          have hia := fun W => idx_strs ps.length ps.length i w.heap.size W hi
          have hx0 : wr.cell? ⟨w.heap.size, i, none⟩ = some (.string x) := (blk_cell hp1 i).trans (by simp [hx])
          by_cases he : N.L x = []
          · have hxe : x.toList.isEmpty = true := by rw [isE_iff]; exact decide_eq_true he
            have hg1 : decide ((1 : Int) < (ps.length : Int)) = false := decide_eq_false (fun h1 => HO.out i x hx (by omega) he)
            clear he hx
            go_wp2
            go_roundw
            case rel => exact ⟨i + 1, by go_num, by omega, (by first | trivial | rfl)⟩
            case measure => simp [RowKit.intOf]; omega
          · have hxe : x.toList.isEmpty = false := by rw [isE_iff]; exact decide_eq_false he
            clear he hx
            go_wp2
            go_roundw
            case rel => exact ⟨i + 1, by go_num, by omega, (by first | trivial | rfl)⟩
            case measure => simp [RowKit.intOf]; omega
        · obtain rfl : i = ps.length := by omega
          clear hi hil
          go_wp2_with (first
            | (go_at_call 42; (with_reducible refine (hcn _).mono ?_); rintro e W2 ⟨rfl, rfl⟩; have hrf := blk_frozen HR1.out; have hz0 : W2.cell? ⟨b, 0, none⟩ = some (.string r.wh) := blk_cell HR1.out 0; have hz16 : W2.cell? ⟨b, 16, none⟩ = some (.int .i64 r.pr) := blk_cell HR1.out 16; have hz17 : W2.cell? ⟨b, 17, none⟩ = some (.int .i64 r.se) := blk_cell HR1.out 17)
            | (go_at_call 43; (with_reducible refine (HJ.out _ _ (by exact hp1)).mono ?_); rintro e W5 ⟨rfl, b5⟩; have HR5 := Lib.hid (heap_keeps b5 HR1.out); have HM5 := Lib.hid (HM1.out.step b5); have hrf5 := blk_frozen HR5.out; have hk0 : W5.cell? ⟨b, 0, none⟩ = some (.string r.wh) := blk_cell HR5.out 0))
          go_ret
          exact ⟨rfl, HM1.out, fun h0 => absurd h0 HP.out⟩
    | false =>
      rw [if_neg (fun hm => by have := hcm2.1 hm; cases this)]
      by_cases h1 : 1 < ps.length
      · have HRR2 : Hid (rr = { r with wh := mkB (ps.map N.L).flatten, pr := (N.primN (ps.map N.L) : Int), se := (N.secN (ps.map N.L) : Int) }) := Lib.hid (by rw [HRR.out, if_pos h1, if_pos h1])
        have H1 := Lib.hid h1
        obtain ⟨y, hy⟩ := get_exS ps (ps.length - 1) (by omega)
        have hprim : N.primN (ps.map N.L) = y.size := by
          unfold N.primN
          rw [List.length_map, if_pos h1, List.getD_eq_getElem?_getD, List.getElem?_map, hy]
          exact N.L_len y
        have hi1 := fun bk W => idx_strs ps.length ps.length (ps.length - 1) bk W (by omega)
        rw [show ((ps.length - 1 : Nat) : Int) = (ps.length : Int) - 1 by omega] at hi1
        have hm1 : -9223372036854775808 ≤ (ps.length : Int) - 1 := by omega
        have hm2 : (ps.length : Int) - 1 ≤ 9223372036854775807 := by omega
        have hg1 : decide ((1 : Int) < (ps.length : Int)) = true := decide_eq_true (by omega)
        by_cases h2 : 2 < ps.length
        · obtain ⟨z, hz⟩ := get_exS ps (ps.length - 2) (by omega)
          have hsec : N.secN (ps.map N.L) = z.size := by
            unfold N.secN
            rw [List.length_map, if_pos h2, List.getD_eq_getElem?_getD, List.getElem?_map, hz]
            exact N.L_len z
          rw [hprim, hsec] at HRR2
          have hi2 := fun bk W => idx_strs ps.length ps.length (ps.length - 2) bk W (by omega)
          rw [show ((ps.length - 2 : Nat) : Int) = (ps.length : Int) - 2 by omega] at hi2
          have hm3 : -9223372036854775808 ≤ (ps.length : Int) - 2 := by omega
          have hm4 : (ps.length : Int) - 2 ≤ 9223372036854775807 := by omega
          have hg2 : decide ((2 : Int) < (ps.length : Int)) = true := decide_eq_true (by omega)
          have HY := Lib.hid hy
          have HZ := Lib.hid hz
          clear h hsp hT hps hpm hcm hcm2 hfl hs hok hbad hprim hsec hy hz h1 h2 HRR
          go_enter Tryd.func20, Tryd.ntmps20
          go_wp2_with (first
        | (go_at_call 41; (with_reducible refine HSP.out.mono ?_); rintro e W1 ⟨rfl, hp1, b1⟩; have HR1 := Lib.hid (heap_keeps b1 HH.out); have HM1 := Lib.hid (Mid.of (b := b) b1); have hy1 : W1.cell? ⟨b, 1, none⟩ = some (.string r.fr) := blk_cell HR1.out 1))
          go_loopw [14] (fun v14 wx => ∃ i : Nat, v14 = .int .i64 i ∧ i ≤ ps.length ∧ wx = W1) (fun v14 wx => ps.length - (RowKit.intOf v14).toNat)
          case atStart => exact ⟨0, rfl, Nat.zero_le _, rfl⟩
          case round =>
            obtain ⟨i, rfl, hil, rfl⟩ := hrel
            by_cases hi : i < ps.length
            · obtain ⟨x, hx⟩ := get_exS ps i hi
              have hia := fun W => idx_strs ps.length ps.length i w.heap.size W hi
              have hx0 : wr.cell? ⟨w.heap.size, i, none⟩ = some (.string x) := (blk_cell hp1 i).trans (by simp [hx])
              by_cases he : N.L x = []
              · exact absurd he (HO.out i x hx H1.out)
              · have hxe : x.toList.isEmpty = false := by rw [isE_iff]; exact decide_eq_false he
                clear he hx
                go_wp2
                go_roundw
                case rel => exact ⟨i + 1, by go_num, by omega, (by first | trivial | rfl)⟩
                case measure => simp [RowKit.intOf]; omega
            · obtain rfl : i = ps.length := by omega
              clear hi hil
              have hv1 : wr.cell? ⟨w.heap.size, ps.length - 1, none⟩ = some (.string y) := (blk_cell hp1 _).trans (by simp [HY.out])
              have hv2 : wr.cell? ⟨w.heap.size, ps.length - 2, none⟩ = some (.string z) := (blk_cell hp1 _).trans (by simp [HZ.out])
              have hne : w.heap.size ≠ b := by omega
              go_wp2_with (first
          | (go_at_call 42; (with_reducible refine (hcn _).mono ?_); rintro e W2 ⟨rfl, rfl⟩; have hrf := blk_frozen HR1.out; have hz0 : W2.cell? ⟨b, 0, none⟩ = some (.string r.wh) := blk_cell HR1.out 0; have hz16 : W2.cell? ⟨b, 16, none⟩ = some (.int .i64 r.pr) := blk_cell HR1.out 16; have hz17 : W2.cell? ⟨b, 17, none⟩ = some (.int .i64 r.se) := blk_cell HR1.out 17)
          | (go_at_call 43; (with_reducible refine (HJ.out _ _ (blk_far (blk_far (blk_far hp1 hne _) hne _) hne _)).mono ?_); rintro e W5 ⟨rfl, b5⟩; have HR5 := Lib.hid (heap_keeps b5 (set_se (set_se (set_pr HR1.out (y.size : Int)) (y.size : Int)) (z.size : Int))); have HM5 := Lib.hid ((((HM1.out.set _ _).set _ _).set _ _).step b5); have hrf5 := blk_frozen HR5.out; have hk0 : W5.cell? ⟨b, 0, none⟩ = some (.string r.wh) := blk_cell HR5.out 0))
              go_ret
              exact ⟨rfl, HM5.out.set _ _, fun _ => by rw [HRR2.out]; exact set_wh HR5.out _⟩
        · have hsec : N.secN (ps.map N.L) = y.size := by
            unfold N.secN
            rw [List.length_map, if_neg h2, hprim]
          rw [hprim, hsec] at HRR2
          have hg2 : decide ((2 : Int) < (ps.length : Int)) = false := decide_eq_false (by omega)
          have HY := Lib.hid hy
          clear h hsp hT hps hpm hcm hcm2 hfl hs hok hbad hprim hsec hy h1 h2 HRR
          go_enter Tryd.func20, Tryd.ntmps20
          go_wp2_with (first
        | (go_at_call 41; (with_reducible refine HSP.out.mono ?_); rintro e W1 ⟨rfl, hp1, b1⟩; have HR1 := Lib.hid (heap_keeps b1 HH.out); have HM1 := Lib.hid (Mid.of (b := b) b1); have hy1 : W1.cell? ⟨b, 1, none⟩ = some (.string r.fr) := blk_cell HR1.out 1))
          go_loopw [14] (fun v14 wx => ∃ i : Nat, v14 = .int .i64 i ∧ i ≤ ps.length ∧ wx = W1) (fun v14 wx => ps.length - (RowKit.intOf v14).toNat)
          case atStart => exact ⟨0, rfl, Nat.zero_le _, rfl⟩
          case round =>
            obtain ⟨i, rfl, hil, rfl⟩ := hrel
            by_cases hi : i < ps.length
            · obtain ⟨x, hx⟩ := get_exS ps i hi
              have hia := fun W => idx_strs ps.length ps.length i w.heap.size W hi
              have hx0 : wr.cell? ⟨w.heap.size, i, none⟩ = some (.string x) := (blk_cell hp1 i).trans (by simp [hx])
              by_cases he : N.L x = []
              · exact absurd he (HO.out i x hx H1.out)
              · have hxe : x.toList.isEmpty = false := by rw [isE_iff]; exact decide_eq_false he
                clear he hx
                go_wp2
                go_roundw
                case rel => exact ⟨i + 1, by go_num, by omega, (by first | trivial | rfl)⟩
                case measure => simp [RowKit.intOf]; omega
            · obtain rfl : i = ps.length := by omega
              clear hi hil
              have hv1 : wr.cell? ⟨w.heap.size, ps.length - 1, none⟩ = some (.string y) := (blk_cell hp1 _).trans (by simp [HY.out])
              have hne : w.heap.size ≠ b := by omega
              go_wp2_with (first
          | (go_at_call 42; (with_reducible refine (hcn _).mono ?_); rintro e W2 ⟨rfl, rfl⟩; have hrf := blk_frozen HR1.out; have hz0 : W2.cell? ⟨b, 0, none⟩ = some (.string r.wh) := blk_cell HR1.out 0; have hz16 : W2.cell? ⟨b, 16, none⟩ = some (.int .i64 r.pr) := blk_cell HR1.out 16; have hz17 : W2.cell? ⟨b, 17, none⟩ = some (.int .i64 r.se) := blk_cell HR1.out 17)
          | (go_at_call 43; (with_reducible refine (HJ.out _ _ (blk_far (blk_far hp1 hne _) hne _)).mono ?_); rintro e W5 ⟨rfl, b5⟩; have HR5 := Lib.hid (heap_keeps b5 (set_se (set_pr HR1.out (y.size : Int)) (y.size : Int))); have HM5 := Lib.hid (((HM1.out.set _ _).set _ _).step b5); have hrf5 := blk_frozen HR5.out; have hk0 : W5.cell? ⟨b, 0, none⟩ = some (.string r.wh) := blk_cell HR5.out 0))
              go_ret
              exact ⟨rfl, HM5.out.set _ _, fun _ => by rw [HRR2.out]; exact set_wh HR5.out _⟩
      · have HRR2 : Hid (rr = { r with wh := mkB (ps.map N.L).flatten }) := Lib.hid (by rw [HRR.out, if_neg h1, if_neg h1])
        have hg1 : decide ((1 : Int) < (ps.length : Int)) = false := decide_eq_false (by omega)
        clear h hsp hT hps hpm hcm hcm2 hfl hs hok hbad h1 HRR
        go_enter Tryd.func20, Tryd.ntmps20
        go_wp2_with (first
        | (go_at_call 41; (with_reducible refine HSP.out.mono ?_); rintro e W1 ⟨rfl, hp1, b1⟩; have HR1 := Lib.hid (heap_keeps b1 HH.out); have HM1 := Lib.hid (Mid.of (b := b) b1); have hy1 : W1.cell? ⟨b, 1, none⟩ = some (.string r.fr) := blk_cell HR1.out 1))
        go_loopw [14] (fun v14 wx => ∃ i : Nat, v14 = .int .i64 i ∧ i ≤ ps.length ∧ wx = W1) (fun v14 wx => ps.length - (RowKit.intOf v14).toNat)
        case atStart => exact ⟨0, rfl, Nat.zero_le _, rfl⟩
        case round =>
          obtain ⟨i, rfl, hil, rfl⟩ := hrel
          by_cases hi : i < ps.length
          · obtain ⟨x, hx⟩ := get_exS ps i hi
            have hia := fun W => idx_strs ps.length ps.length i w.heap.size W hi
            have hx0 : wr.cell? ⟨w.heap.size, i, none⟩ = some (.string x) := (blk_cell hp1 i).trans (by simp [hx])
            by_cases he : N.L x = []
            · have hxe : x.toList.isEmpty = true := by rw [isE_iff]; exact decide_eq_true he
              have hg1 : decide ((1 : Int) < (ps.length : Int)) = false := decide_eq_false (fun h1 => HO.out i x hx (by omega) he)
              clear he hx
              go_wp2
              go_roundw
              case rel => exact ⟨i + 1, by go_num, by omega, (by first | trivial | rfl)⟩
              case measure => simp [RowKit.intOf]; omega
            · have hxe : x.toList.isEmpty = false := by rw [isE_iff]; exact decide_eq_false he
              clear he hx
              go_wp2
              go_roundw
              case rel => exact ⟨i + 1, by go_num, by omega, (by first | trivial | rfl)⟩
              case measure => simp [RowKit.intOf]; omega
          · obtain rfl : i = ps.length := by omega
            clear hi hil
            go_wp2_with (first
            | (go_at_call 42; (with_reducible refine (hcn _).mono ?_); rintro e W2 ⟨rfl, rfl⟩; have hrf := blk_frozen HR1.out; have hz0 : W2.cell? ⟨b, 0, none⟩ = some (.string r.wh) := blk_cell HR1.out 0; have hz16 : W2.cell? ⟨b, 16, none⟩ = some (.int .i64 r.pr) := blk_cell HR1.out 16; have hz17 : W2.cell? ⟨b, 17, none⟩ = some (.int .i64 r.se) := blk_cell HR1.out 17)
            | (go_at_call 43; (with_reducible refine (HJ.out _ _ hp1).mono ?_); rintro e W5 ⟨rfl, b5⟩; have HR5 := Lib.hid (heap_keeps b5 HR1.out); have HM5 := Lib.hid (HM1.out.step b5); have hrf5 := blk_frozen HR5.out; have hk0 : W5.cell? ⟨b, 0, none⟩ = some (.string r.wh) := blk_cell HR5.out 0))
            go_ret
            exact ⟨rfl, HM5.out.set _ _, fun _ => by rw [HRR2.out]; exact set_wh HR5.out _⟩
end Go.Proofs.YtgobcejjefgkcaaDoor.Print
