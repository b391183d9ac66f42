/- Functions of the program as Lean functions, and that the program's calls answer so: printed by this session's own program (wip/tools/pext.py) out of the translation. Conditions: each theorem's own. Not trusted: Lean checks it. -/
import Derived.Test.YtkgdpgoianimjaaPrint0
import Derived.Test.YtkgdpgoianimjaaPrint1
import Derived.Test.YtkgdpgoianimjaaPrint3
namespace Go.Proofs.Ytkgdpgoianimjaa.Print
open Go.RowKit Go.Proofs.YtkgdpgoianimjaaW.PrintWords Go.Proofs.YtkgdpgoianimjaaW.PrintLast Go.Proofs.YtkgdpgoianimjaaW.PrintMore
attribute [local go_sem] max2_int min2_int max_two min_two max_three min_three max_four min_four   -- for this text's walks alone
set_option linter.unusedVariables false
set_option linter.unusedSimpArgs false

-- FOREIGN: function 21 (symbol_Text)

/-! ### figureheadref18_Text: function 22 -/
def figureheadref18_Text.l0 : Nat → List (S57) → ByteArray → Int → Int → ByteArray → ByteArray → ByteArray → ByteArray → ByteArray → ByteArray → ByteArray → ByteArray → Option (ByteArray)
  | 0, _, _, _, _, _, _, _, _, _, _, _, _ => none
  | k + 1, x1, x5, x6, x158000, x158001, x158002, x158003, x158004, x158005, x158006, x158007, x158008 => if x6 < (x1.length : Int) then (if 0 ≤ x6 then (if ((rd_T57 x1 x6).f0) = 1 then ((figureheadref11_Bytes.f ((rd_T57 x1 x6).f1)).bind fun t160 => (if x5.size + (strOfNums t160).size ≤ 9223372036854775807 then (figureheadref18_Text.l0 k x1 (x5 ++ (strOfNums t160)) (wrap64 (x6 + 1)) x158000 x158001 x158002 x158003 x158004 x158005 x158006 x158007 x158008) else (none))) else (if ((rd_T57 x1 x6).f0) = 2 then (if x5.size + x158003.size ≤ 9223372036854775807 then (figureheadref18_Text.l0 k x1 (x5 ++ x158003) (wrap64 (x6 + 1)) x158000 x158001 x158002 x158003 x158004 x158005 x158006 x158007 x158008) else (none)) else (if ((rd_T57 x1 x6).f0) = 3 then (if x5.size + x158004.size ≤ 9223372036854775807 then (figureheadref18_Text.l0 k x1 (x5 ++ x158004) (wrap64 (x6 + 1)) x158000 x158001 x158002 x158003 x158004 x158005 x158006 x158007 x158008) else (none)) else (if ((rd_T57 x1 x6).f0) = 4 then (if x5.size + x158005.size ≤ 9223372036854775807 then (figureheadref18_Text.l0 k x1 (x5 ++ x158005) (wrap64 (x6 + 1)) x158000 x158001 x158002 x158003 x158004 x158005 x158006 x158007 x158008) else (none)) else (if ((rd_T57 x1 x6).f0) = 5 then (if x5.size + x158006.size ≤ 9223372036854775807 then (figureheadref18_Text.l0 k x1 (x5 ++ x158006) (wrap64 (x6 + 1)) x158000 x158001 x158002 x158003 x158004 x158005 x158006 x158007 x158008) else (none)) else (if ((rd_T57 x1 x6).f0) = 6 then (if x5.size + x158007.size ≤ 9223372036854775807 then (figureheadref18_Text.l0 k x1 (x5 ++ x158007) (wrap64 (x6 + 1)) x158000 x158001 x158002 x158003 x158004 x158005 x158006 x158007 x158008) else (none)) else (figureheadref18_Text.l0 k x1 x5 (wrap64 (x6 + 1)) x158000 x158001 x158002 x158003 x158004 x158005 x158006 x158007 x158008))))))) else (none)) else (some x5)
def figureheadref18_Text.f (k : Nat) (a0_0 : Int) (a0_1 : ByteArray) (a0_2 : ByteArray) (a0_3 : ByteArray) (a0_4 : ByteArray) (a0_5 : ByteArray) (a0_6 : ByteArray) (a0_7 : ByteArray) (a0_8 : ByteArray) (l1 : List (S57)) : Option (ByteArray) := figureheadref18_Text.l0 k l1 (⟨#[]⟩ : ByteArray) 0 a0_0 a0_1 a0_2 a0_3 a0_4 a0_5 a0_6 a0_7 a0_8
set_option maxHeartbeats 8000000 in
set_option maxRecDepth 100000 in
theorem figureheadref18_Text.calls (k : Nat) (a0_0 : Int) (a0_1 : ByteArray) (a0_2 : ByteArray) (a0_3 : ByteArray) (a0_4 : ByteArray) (a0_5 : ByteArray) (a0_6 : ByteArray) (a0_7 : ByteArray) (a0_8 : ByteArray) (A1 : Option Addr) (c1 : Nat) (l1 : List (S57)) (r : ByteArray) (w : World) (hr1 : Kd.C k57 w A1 l1.length l1) (hc1 : l1.length ≤ c1) (h : figureheadref18_Text.f k a0_0 a0_1 a0_2 a0_3 a0_4 a0_5 a0_6 a0_7 a0_8 l1 = some r) :
    Calls Try.prog 22 #[.agg #[.int .i32 a0_0, .string a0_1, .string a0_2, .string a0_3, .string a0_4, .string a0_5, .string a0_6, .string a0_7, .string a0_8], .slice A1 l1.length c1] w fun e w' => e = .returned (.string r) ∧ Below w.heap.size w w' := by
  have hu23 := Try.underlying23
  have HR1 := Aside0.mk hr1
  have HC1 := Aside0.mk hc1
  clear hr1 hc1
  have HB := Aside0.mk (Below.refl w.heap.size w)
  have H : (figureheadref18_Text.l0 k l1 (⟨#[]⟩ : ByteArray) 0 a0_0 a0_1 a0_2 a0_3 a0_4 a0_5 a0_6 a0_7 a0_8) = some r := h
  clear h
  have H' := Aside0.mk H
  clear H
  go_enter Try.func22, Try.ntmps22
  go_wp2_with (first | ((with_reducible refine gate_dst (N := 2) rfl ?_); refine box_event ?hg (N := 2) ?hd (cs := #[.int .i32 a0_0, .string a0_1, .string a0_2, .string a0_3, .string a0_4, .string a0_5, .string a0_6, .string a0_7, .string a0_8]) (t := 23) ?hr ?_; (case hd => rfl); (case hg => rfl); (case hr => first | (go_simp; done) | (go_simp; rfl)); intro gb157 hg w3 hbox hb; have n0_ := Aside0.mk (below_step (by repeat (first | (with_reducible first | exact HB.out | apply below_alloc | apply pw_below_drewN | apply below_drew1) | exact HB.out)) hb); have n1_ := Aside0.mk (hbox); have n2_ := Aside0.mk ((by rw [hg]; exact (below_size (by repeat (first | (with_reducible first | exact HB.out | apply below_alloc | apply pw_below_drewN | apply below_drew1) | exact HB.out))) : w.heap.size ≤ gb157)); have n3_ := Aside0.mk ((by rw [hg]; exact (below_size (by repeat (first | (with_reducible first | exact HB.out | apply below_alloc | apply pw_below_drewN | apply below_drew1) | exact HB.out))) : w.heap.size ≤ gb157)); clear HB; have HB := n0_; have BK157 := n1_; have GW157 := n2_; have GE157 := n3_; clear n0_ n1_ n2_ n3_; clear hb hbox hg))
  go_loopg [5, 6] k (fun kq v5 v6 w' => ∃ (x5_1 : ByteArray) (x6_1 : Int), v5 = .string x5_1 ∧ v6 = .int .i64 x6_1 ∧ Aside0 (figureheadref18_Text.l0 kq l1 x5_1 x6_1 a0_0 a0_1 a0_2 a0_3 a0_4 a0_5 a0_6 a0_7 a0_8 = some r) ∧ Aside0 (kq ≤ k) ∧ Aside0 (w'.heap[gb157]? = some (.cells #[.int .i32 a0_0, .string a0_1, .string a0_2, .string a0_3, .string a0_4, .string a0_5, .string a0_6, .string a0_7, .string a0_8] 23 (0, 0))) ∧ Aside0 (Below w.heap.size w w'))
  case atStart => exact ⟨((⟨#[]⟩ : ByteArray)), (0), (by first | rfl | (simp; done) | (simp [*]; done) | (simp [bneNil_]; done)), (by first | rfl | (simp; done) | (simp [*]; done) | (simp [bneNil_]; done)), H', ⟨Nat.le_refl _⟩, ⟨by (with_reducible repeat (first | refine blk_drewN ?_ _ | refine blk_drew ?_ | refine blk_alloc ?_ _)); exact BK157.out⟩, ⟨by repeat (first | (with_reducible first | exact HB.out | apply below_alloc | apply pw_below_drewN | apply below_drew1 | refine below_set ?_ GE157.out) | exact HB.out)⟩⟩
  case round =>
    clear H'
    try clear c1
    try clear c2
    try clear p2
    obtain ⟨x5_1, x6_1, rfl, rfl, HA, HK1, BK157, HB⟩ := hrel
    cases gk with
    | zero => exact absurd HA.out (by simp [figureheadref18_Text.l0])
    | succ k1 =>
      have H := HA.out
      clear HA
      simp only [figureheadref18_Text.l0] at H
      by_cases c4 : x6_1 < (l1.length : Int)
      · rw [if_pos c4] at H
        have c4b0 : decide (x6_1 < (l1.length : Int)) = true := decide_eq_true c4
        clear c4
        by_cases c5 : 0 ≤ x6_1
        · rw [if_pos c5] at H
          have c5b0 : decide (0 ≤ x6_1) = true := decide_eq_true c5
          clear c5
          by_cases c6 : ((rd_T57 l1 x6_1).f0) = 1
          · rw [if_pos c6] at H
            have c6b0 : (((rd_T57 l1 x6_1).f0) == 1) = true := beq_iff_eq.mpr c6
            have c6b1 : (((rd_T57 l1 x6_1).f0) != 1) = false := bne_eq_false_iff_eq.mpr c6
            clear c6
            replace H := Option.bind_eq_some_iff.mp H
            obtain ⟨t160, A70, H⟩ := H
            replace H : (if x5_1.size + (strOfNums t160).size ≤ 9223372036854775807 then (figureheadref18_Text.l0 k1 l1 (x5_1 ++ (strOfNums t160)) (wrap64 (x6_1 + 1)) a0_0 a0_1 a0_2 a0_3 a0_4 a0_5 a0_6 a0_7 a0_8) else (none)) = some r := H
            have A7 := Aside0.mk A70
            clear A70
            by_cases c8 : x5_1.size + (strOfNums t160).size ≤ 9223372036854775807
            · rw [if_pos c8] at H
              have c8b0 := eq_true c8
              have c8b1 : decide (x5_1.size + (strOfNums t160).size ≤ 9223372036854775807) = true := decide_eq_true c8
              try have c8b2 : (9223372036854775807 < x5_1.size + (strOfNums t160).size) = False := eq_false (Nat.not_lt.2 c8)
              have H' := Aside0.mk H
              clear H
              have p158 : 0 ≤ (x6_1 : Int) := of_decide_eq_true (by first | (with_reducible assumption) | assumption)
              have q158 : x6_1 < (l1.length : Int) := of_decide_eq_true (by first | (with_reducible assumption) | assumption)
              obtain ⟨ad158, e158, hx158_0, hx158_1⟩ := at_T57 HR1.out x6_1 p158 q158
              cases e158
              replace hx158_0 := (HB.out.cell (World.block_lt_of_cell? w _ hx158_0)).trans hx158_0
              replace hx158_1 := (HB.out.cell (World.block_lt_of_cell? w _ hx158_1)).trans hx158_1
              replace p158 := eq_true p158
              replace q158 := eq_true q158
              have p159 : 0 ≤ (x6_1 : Int) := of_decide_eq_true (by first | (with_reducible assumption) | assumption)
              have q159 : x6_1 < (l1.length : Int) := of_decide_eq_true (by first | (with_reducible assumption) | assumption)
              obtain ⟨ad159, e159, hx159_0, hx159_1⟩ := at_T57 HR1.out x6_1 p159 q159
              obtain rfl : ad158 = ad159 := (by injection e159)
              replace hx159_0 := (HB.out.cell (World.block_lt_of_cell? w _ hx159_0)).trans hx159_0
              replace hx159_1 := (HB.out.cell (World.block_lt_of_cell? w _ hx159_1)).trans hx159_1
              replace p159 := eq_true p159
              replace q159 := eq_true q159
              go_wp2_with (first | ((with_reducible refine gate_callee (f := 29) rfl ?_); refine goesL_ (some 26) rfl rfl Try.func29 (by kernel_rfl) rfl #[.int .i32 ((rd_T57 l1 x6_1).f1)] rfl (by (try simp only [List.map_toArray, List.map_cons, List.map_nil]); first | done | rfl | (simp only [List.length_drop, List.length_take]; rfl)) ?_; (with_reducible refine (figureheadref11_Bytes.calls ((rd_T57 l1 x6_1).f1) t160 _ A7.out).mono ?_); rintro e w9 ⟨v161, rfl, ho0, hb⟩; refine ⟨_, rfl, ?_⟩; have n0_ := Aside0.mk (Kd.R_lower ho0 (below_size (by repeat (first | (with_reducible first | exact HB.out | apply below_alloc | apply pw_below_drewN | apply below_drew1 | refine below_set ?_ GE157.out) | exact HB.out)))); have n1_ := Aside0.mk (blk_below (g := gb157) (o := .cells #[.int .i32 a0_0, .string a0_1, .string a0_2, .string a0_3, .string a0_4, .string a0_5, .string a0_6, .string a0_7, .string a0_8] 23 (0, 0)) (by (with_reducible repeat (first | refine blk_drewN ?_ _ | refine blk_drew ?_ | refine blk_alloc ?_ _)); exact BK157.out) hb); have n2_ := Aside0.mk (below_step (by repeat (first | (with_reducible first | exact HB.out | apply below_alloc | apply pw_below_drewN | apply below_drew1 | refine below_set ?_ GE157.out) | exact HB.out)) hb); clear BK157; clear HB; have HO162 := n0_; have BK157 := n1_; have HB := n2_; clear n0_ n1_ n2_; (try clear hb); (try clear hb2); (try clear hk); (try clear hi); (try clear ho0); have hcv10 := own_string (P := Try.prog) Try.underlying68 Try.underlying5 Try.underlying9 (Kd.own_of_R HO162.out)))
              go_roundg k1
              case measure => have := HK1.out; omega
              case rel => exact ⟨(x5_1 ++ (strOfNums t160)), (wrap64 (x6_1 + 1)), (by first | rfl | (simp; done) | (simp [*]; done) | (simp [bneNil_]; done)), (by first | rfl | (simp; done) | (simp [*]; done) | (simp [bneNil_]; done)), H', ⟨by have := HK1.out; omega⟩, ⟨by (with_reducible repeat (first | refine blk_drewN ?_ _ | refine blk_drew ?_ | refine blk_alloc ?_ _)); exact BK157.out⟩, ⟨by repeat (first | (with_reducible first | exact HB.out | apply below_alloc | apply pw_below_drewN | apply below_drew1 | refine below_set ?_ GE157.out) | exact HB.out)⟩⟩
            · rw [if_neg c8] at H
              exact absurd H (by simp)
          · rw [if_neg c6] at H
            have c6b0 : (((rd_T57 l1 x6_1).f0) == 1) = false := beq_eq_false_iff_ne.mpr c6
            have c6b1 : (((rd_T57 l1 x6_1).f0) != 1) = true := bne_iff_ne.mpr c6
            by_cases c11 : ((rd_T57 l1 x6_1).f0) = 2
            · rw [if_pos c11] at H
              have c11b0 : (((rd_T57 l1 x6_1).f0) == 2) = true := beq_iff_eq.mpr c11
              have c11b1 : (((rd_T57 l1 x6_1).f0) != 2) = false := bne_eq_false_iff_eq.mpr c11
              clear c11
              by_cases c12 : x5_1.size + a0_3.size ≤ 9223372036854775807
              · rw [if_pos c12] at H
                have c12b0 := eq_true c12
                have c12b1 : decide (x5_1.size + a0_3.size ≤ 9223372036854775807) = true := decide_eq_true c12
                try have c12b2 : (9223372036854775807 < x5_1.size + a0_3.size) = False := eq_false (Nat.not_lt.2 c12)
                have H' := Aside0.mk H
                clear H
                have p158 : 0 ≤ (x6_1 : Int) := of_decide_eq_true (by first | (with_reducible assumption) | assumption)
                have q158 : x6_1 < (l1.length : Int) := of_decide_eq_true (by first | (with_reducible assumption) | assumption)
                obtain ⟨ad158, e158, hx158_0, hx158_1⟩ := at_T57 HR1.out x6_1 p158 q158
                cases e158
                replace hx158_0 := (HB.out.cell (World.block_lt_of_cell? w _ hx158_0)).trans hx158_0
                replace hx158_1 := (HB.out.cell (World.block_lt_of_cell? w _ hx158_1)).trans hx158_1
                replace p158 := eq_true p158
                replace q158 := eq_true q158
                have hcz13_0 : wr.cell? ⟨gb157, 0, none⟩ = some (.int .i32 a0_0) := (blk_cell BK157.out 0).trans rfl
                have hcz13_1 : wr.cell? ⟨gb157, 1, none⟩ = some (.string a0_1) := (blk_cell BK157.out 1).trans rfl
                have hcz13_2 : wr.cell? ⟨gb157, 2, none⟩ = some (.string a0_2) := (blk_cell BK157.out 2).trans rfl
                have hcz13_3 : wr.cell? ⟨gb157, 3, none⟩ = some (.string a0_3) := (blk_cell BK157.out 3).trans rfl
                have hcz13_4 : wr.cell? ⟨gb157, 4, none⟩ = some (.string a0_4) := (blk_cell BK157.out 4).trans rfl
                have hcz13_5 : wr.cell? ⟨gb157, 5, none⟩ = some (.string a0_5) := (blk_cell BK157.out 5).trans rfl
                have hcz13_6 : wr.cell? ⟨gb157, 6, none⟩ = some (.string a0_6) := (blk_cell BK157.out 6).trans rfl
                have hcz13_7 : wr.cell? ⟨gb157, 7, none⟩ = some (.string a0_7) := (blk_cell BK157.out 7).trans rfl
                have hcz13_8 : wr.cell? ⟨gb157, 8, none⟩ = some (.string a0_8) := (blk_cell BK157.out 8).trans rfl
                have hfz13_0 := blk_frozen BK157.out 0
                have hfz13_1 := blk_frozen BK157.out 1
                have hfz13_2 := blk_frozen BK157.out 2
                have hfz13_3 := blk_frozen BK157.out 3
                have hfz13_4 := blk_frozen BK157.out 4
                have hfz13_5 := blk_frozen BK157.out 5
                have hfz13_6 := blk_frozen BK157.out 6
                have hfz13_7 := blk_frozen BK157.out 7
                have hfz13_8 := blk_frozen BK157.out 8
                go_wp2
                go_roundg k1
                case measure => have := HK1.out; omega
                case rel => exact ⟨(x5_1 ++ a0_3), (wrap64 (x6_1 + 1)), (by first | rfl | (simp; done) | (simp [*]; done) | (simp [bneNil_]; done)), (by first | rfl | (simp; done) | (simp [*]; done) | (simp [bneNil_]; done)), H', ⟨by have := HK1.out; omega⟩, ⟨by (with_reducible repeat (first | refine blk_drewN ?_ _ | refine blk_drew ?_ | refine blk_alloc ?_ _)); exact BK157.out⟩, ⟨by repeat (first | (with_reducible first | exact HB.out | apply below_alloc | apply pw_below_drewN | apply below_drew1 | refine below_set ?_ GE157.out) | exact HB.out)⟩⟩
              · rw [if_neg c12] at H
                exact absurd H (by simp)
            · rw [if_neg c11] at H
              have c11b0 : (((rd_T57 l1 x6_1).f0) == 2) = false := beq_eq_false_iff_ne.mpr c11
              have c11b1 : (((rd_T57 l1 x6_1).f0) != 2) = true := bne_iff_ne.mpr c11
              by_cases c14 : ((rd_T57 l1 x6_1).f0) = 3
              · rw [if_pos c14] at H
                have c14b0 : (((rd_T57 l1 x6_1).f0) == 3) = true := beq_iff_eq.mpr c14
                have c14b1 : (((rd_T57 l1 x6_1).f0) != 3) = false := bne_eq_false_iff_eq.mpr c14
                clear c14
                by_cases c15 : x5_1.size + a0_4.size ≤ 9223372036854775807
                · rw [if_pos c15] at H
                  have c15b0 := eq_true c15
                  have c15b1 : decide (x5_1.size + a0_4.size ≤ 9223372036854775807) = true := decide_eq_true c15
                  try have c15b2 : (9223372036854775807 < x5_1.size + a0_4.size) = False := eq_false (Nat.not_lt.2 c15)
                  have H' := Aside0.mk H
                  clear H
                  have p158 : 0 ≤ (x6_1 : Int) := of_decide_eq_true (by first | (with_reducible assumption) | assumption)
                  have q158 : x6_1 < (l1.length : Int) := of_decide_eq_true (by first | (with_reducible assumption) | assumption)
                  obtain ⟨ad158, e158, hx158_0, hx158_1⟩ := at_T57 HR1.out x6_1 p158 q158
                  cases e158
                  replace hx158_0 := (HB.out.cell (World.block_lt_of_cell? w _ hx158_0)).trans hx158_0
                  replace hx158_1 := (HB.out.cell (World.block_lt_of_cell? w _ hx158_1)).trans hx158_1
                  replace p158 := eq_true p158
                  replace q158 := eq_true q158
                  have hcz16_0 : wr.cell? ⟨gb157, 0, none⟩ = some (.int .i32 a0_0) := (blk_cell BK157.out 0).trans rfl
                  have hcz16_1 : wr.cell? ⟨gb157, 1, none⟩ = some (.string a0_1) := (blk_cell BK157.out 1).trans rfl
                  have hcz16_2 : wr.cell? ⟨gb157, 2, none⟩ = some (.string a0_2) := (blk_cell BK157.out 2).trans rfl
                  have hcz16_3 : wr.cell? ⟨gb157, 3, none⟩ = some (.string a0_3) := (blk_cell BK157.out 3).trans rfl
                  have hcz16_4 : wr.cell? ⟨gb157, 4, none⟩ = some (.string a0_4) := (blk_cell BK157.out 4).trans rfl
                  have hcz16_5 : wr.cell? ⟨gb157, 5, none⟩ = some (.string a0_5) := (blk_cell BK157.out 5).trans rfl
                  have hcz16_6 : wr.cell? ⟨gb157, 6, none⟩ = some (.string a0_6) := (blk_cell BK157.out 6).trans rfl
                  have hcz16_7 : wr.cell? ⟨gb157, 7, none⟩ = some (.string a0_7) := (blk_cell BK157.out 7).trans rfl
                  have hcz16_8 : wr.cell? ⟨gb157, 8, none⟩ = some (.string a0_8) := (blk_cell BK157.out 8).trans rfl
                  have hfz16_0 := blk_frozen BK157.out 0
                  have hfz16_1 := blk_frozen BK157.out 1
                  have hfz16_2 := blk_frozen BK157.out 2
                  have hfz16_3 := blk_frozen BK157.out 3
                  have hfz16_4 := blk_frozen BK157.out 4
                  have hfz16_5 := blk_frozen BK157.out 5
                  have hfz16_6 := blk_frozen BK157.out 6
                  have hfz16_7 := blk_frozen BK157.out 7
                  have hfz16_8 := blk_frozen BK157.out 8
                  go_wp2
                  go_roundg k1
                  case measure => have := HK1.out; omega
                  case rel => exact ⟨(x5_1 ++ a0_4), (wrap64 (x6_1 + 1)), (by first | rfl | (simp; done) | (simp [*]; done) | (simp [bneNil_]; done)), (by first | rfl | (simp; done) | (simp [*]; done) | (simp [bneNil_]; done)), H', ⟨by have := HK1.out; omega⟩, ⟨by (with_reducible repeat (first | refine blk_drewN ?_ _ | refine blk_drew ?_ | refine blk_alloc ?_ _)); exact BK157.out⟩, ⟨by repeat (first | (with_reducible first | exact HB.out | apply below_alloc | apply pw_below_drewN | apply below_drew1 | refine below_set ?_ GE157.out) | exact HB.out)⟩⟩
                · rw [if_neg c15] at H
                  exact absurd H (by simp)
              · rw [if_neg c14] at H
                have c14b0 : (((rd_T57 l1 x6_1).f0) == 3) = false := beq_eq_false_iff_ne.mpr c14
                have c14b1 : (((rd_T57 l1 x6_1).f0) != 3) = true := bne_iff_ne.mpr c14
                by_cases c17 : ((rd_T57 l1 x6_1).f0) = 4
                · rw [if_pos c17] at H
                  have c17b0 : (((rd_T57 l1 x6_1).f0) == 4) = true := beq_iff_eq.mpr c17
                  have c17b1 : (((rd_T57 l1 x6_1).f0) != 4) = false := bne_eq_false_iff_eq.mpr c17
                  clear c17
                  by_cases c18 : x5_1.size + a0_5.size ≤ 9223372036854775807
                  · rw [if_pos c18] at H
                    have c18b0 := eq_true c18
                    have c18b1 : decide (x5_1.size + a0_5.size ≤ 9223372036854775807) = true := decide_eq_true c18
                    try have c18b2 : (9223372036854775807 < x5_1.size + a0_5.size) = False := eq_false (Nat.not_lt.2 c18)
                    have H' := Aside0.mk H
                    clear H
                    have p158 : 0 ≤ (x6_1 : Int) := of_decide_eq_true (by first | (with_reducible assumption) | assumption)
                    have q158 : x6_1 < (l1.length : Int) := of_decide_eq_true (by first | (with_reducible assumption) | assumption)
                    obtain ⟨ad158, e158, hx158_0, hx158_1⟩ := at_T57 HR1.out x6_1 p158 q158
                    cases e158
                    replace hx158_0 := (HB.out.cell (World.block_lt_of_cell? w _ hx158_0)).trans hx158_0
                    replace hx158_1 := (HB.out.cell (World.block_lt_of_cell? w _ hx158_1)).trans hx158_1
                    replace p158 := eq_true p158
                    replace q158 := eq_true q158
                    have hcz19_0 : wr.cell? ⟨gb157, 0, none⟩ = some (.int .i32 a0_0) := (blk_cell BK157.out 0).trans rfl
                    have hcz19_1 : wr.cell? ⟨gb157, 1, none⟩ = some (.string a0_1) := (blk_cell BK157.out 1).trans rfl
                    have hcz19_2 : wr.cell? ⟨gb157, 2, none⟩ = some (.string a0_2) := (blk_cell BK157.out 2).trans rfl
                    have hcz19_3 : wr.cell? ⟨gb157, 3, none⟩ = some (.string a0_3) := (blk_cell BK157.out 3).trans rfl
                    have hcz19_4 : wr.cell? ⟨gb157, 4, none⟩ = some (.string a0_4) := (blk_cell BK157.out 4).trans rfl
                    have hcz19_5 : wr.cell? ⟨gb157, 5, none⟩ = some (.string a0_5) := (blk_cell BK157.out 5).trans rfl
                    have hcz19_6 : wr.cell? ⟨gb157, 6, none⟩ = some (.string a0_6) := (blk_cell BK157.out 6).trans rfl
                    have hcz19_7 : wr.cell? ⟨gb157, 7, none⟩ = some (.string a0_7) := (blk_cell BK157.out 7).trans rfl
                    have hcz19_8 : wr.cell? ⟨gb157, 8, none⟩ = some (.string a0_8) := (blk_cell BK157.out 8).trans rfl
                    have hfz19_0 := blk_frozen BK157.out 0
                    have hfz19_1 := blk_frozen BK157.out 1
                    have hfz19_2 := blk_frozen BK157.out 2
                    have hfz19_3 := blk_frozen BK157.out 3
                    have hfz19_4 := blk_frozen BK157.out 4
                    have hfz19_5 := blk_frozen BK157.out 5
                    have hfz19_6 := blk_frozen BK157.out 6
                    have hfz19_7 := blk_frozen BK157.out 7
                    have hfz19_8 := blk_frozen BK157.out 8
                    go_wp2
                    go_roundg k1
                    case measure => have := HK1.out; omega
                    case rel => exact ⟨(x5_1 ++ a0_5), (wrap64 (x6_1 + 1)), (by first | rfl | (simp; done) | (simp [*]; done) | (simp [bneNil_]; done)), (by first | rfl | (simp; done) | (simp [*]; done) | (simp [bneNil_]; done)), H', ⟨by have := HK1.out; omega⟩, ⟨by (with_reducible repeat (first | refine blk_drewN ?_ _ | refine blk_drew ?_ | refine blk_alloc ?_ _)); exact BK157.out⟩, ⟨by repeat (first | (with_reducible first | exact HB.out | apply below_alloc | apply pw_below_drewN | apply below_drew1 | refine below_set ?_ GE157.out) | exact HB.out)⟩⟩
                  · rw [if_neg c18] at H
                    exact absurd H (by simp)
                · rw [if_neg c17] at H
                  have c17b0 : (((rd_T57 l1 x6_1).f0) == 4) = false := beq_eq_false_iff_ne.mpr c17
                  have c17b1 : (((rd_T57 l1 x6_1).f0) != 4) = true := bne_iff_ne.mpr c17
                  by_cases c20 : ((rd_T57 l1 x6_1).f0) = 5
                  · rw [if_pos c20] at H
                    have c20b0 : (((rd_T57 l1 x6_1).f0) == 5) = true := beq_iff_eq.mpr c20
                    have c20b1 : (((rd_T57 l1 x6_1).f0) != 5) = false := bne_eq_false_iff_eq.mpr c20
                    clear c20
                    by_cases c21 : x5_1.size + a0_6.size ≤ 9223372036854775807
                    · rw [if_pos c21] at H
                      have c21b0 := eq_true c21
                      have c21b1 : decide (x5_1.size + a0_6.size ≤ 9223372036854775807) = true := decide_eq_true c21
                      try have c21b2 : (9223372036854775807 < x5_1.size + a0_6.size) = False := eq_false (Nat.not_lt.2 c21)
                      have H' := Aside0.mk H
                      clear H
                      have p158 : 0 ≤ (x6_1 : Int) := of_decide_eq_true (by first | (with_reducible assumption) | assumption)
                      have q158 : x6_1 < (l1.length : Int) := of_decide_eq_true (by first | (with_reducible assumption) | assumption)
                      obtain ⟨ad158, e158, hx158_0, hx158_1⟩ := at_T57 HR1.out x6_1 p158 q158
                      cases e158
                      replace hx158_0 := (HB.out.cell (World.block_lt_of_cell? w _ hx158_0)).trans hx158_0
                      replace hx158_1 := (HB.out.cell (World.block_lt_of_cell? w _ hx158_1)).trans hx158_1
                      replace p158 := eq_true p158
                      replace q158 := eq_true q158
                      have hcz22_0 : wr.cell? ⟨gb157, 0, none⟩ = some (.int .i32 a0_0) := (blk_cell BK157.out 0).trans rfl
                      have hcz22_1 : wr.cell? ⟨gb157, 1, none⟩ = some (.string a0_1) := (blk_cell BK157.out 1).trans rfl
                      have hcz22_2 : wr.cell? ⟨gb157, 2, none⟩ = some (.string a0_2) := (blk_cell BK157.out 2).trans rfl
                      have hcz22_3 : wr.cell? ⟨gb157, 3, none⟩ = some (.string a0_3) := (blk_cell BK157.out 3).trans rfl
                      have hcz22_4 : wr.cell? ⟨gb157, 4, none⟩ = some (.string a0_4) := (blk_cell BK157.out 4).trans rfl
                      have hcz22_5 : wr.cell? ⟨gb157, 5, none⟩ = some (.string a0_5) := (blk_cell BK157.out 5).trans rfl
                      have hcz22_6 : wr.cell? ⟨gb157, 6, none⟩ = some (.string a0_6) := (blk_cell BK157.out 6).trans rfl
                      have hcz22_7 : wr.cell? ⟨gb157, 7, none⟩ = some (.string a0_7) := (blk_cell BK157.out 7).trans rfl
                      have hcz22_8 : wr.cell? ⟨gb157, 8, none⟩ = some (.string a0_8) := (blk_cell BK157.out 8).trans rfl
                      have hfz22_0 := blk_frozen BK157.out 0
                      have hfz22_1 := blk_frozen BK157.out 1
                      have hfz22_2 := blk_frozen BK157.out 2
                      have hfz22_3 := blk_frozen BK157.out 3
                      have hfz22_4 := blk_frozen BK157.out 4
                      have hfz22_5 := blk_frozen BK157.out 5
                      have hfz22_6 := blk_frozen BK157.out 6
                      have hfz22_7 := blk_frozen BK157.out 7
                      have hfz22_8 := blk_frozen BK157.out 8
                      go_wp2
                      go_roundg k1
                      case measure => have := HK1.out; omega
                      case rel => exact ⟨(x5_1 ++ a0_6), (wrap64 (x6_1 + 1)), (by first | rfl | (simp; done) | (simp [*]; done) | (simp [bneNil_]; done)), (by first | rfl | (simp; done) | (simp [*]; done) | (simp [bneNil_]; done)), H', ⟨by have := HK1.out; omega⟩, ⟨by (with_reducible repeat (first | refine blk_drewN ?_ _ | refine blk_drew ?_ | refine blk_alloc ?_ _)); exact BK157.out⟩, ⟨by repeat (first | (with_reducible first | exact HB.out | apply below_alloc | apply pw_below_drewN | apply below_drew1 | refine below_set ?_ GE157.out) | exact HB.out)⟩⟩
                    · rw [if_neg c21] at H
                      exact absurd H (by simp)
                  · rw [if_neg c20] at H
                    have c20b0 : (((rd_T57 l1 x6_1).f0) == 5) = false := beq_eq_false_iff_ne.mpr c20
                    have c20b1 : (((rd_T57 l1 x6_1).f0) != 5) = true := bne_iff_ne.mpr c20
                    by_cases c23 : ((rd_T57 l1 x6_1).f0) = 6
                    · rw [if_pos c23] at H
                      have c23b0 : (((rd_T57 l1 x6_1).f0) == 6) = true := beq_iff_eq.mpr c23
                      have c23b1 : (((rd_T57 l1 x6_1).f0) != 6) = false := bne_eq_false_iff_eq.mpr c23
                      clear c23
                      by_cases c24 : x5_1.size + a0_7.size ≤ 9223372036854775807
                      · rw [if_pos c24] at H
                        have c24b0 := eq_true c24
                        have c24b1 : decide (x5_1.size + a0_7.size ≤ 9223372036854775807) = true := decide_eq_true c24
                        try have c24b2 : (9223372036854775807 < x5_1.size + a0_7.size) = False := eq_false (Nat.not_lt.2 c24)
                        have H' := Aside0.mk H
                        clear H
                        have p158 : 0 ≤ (x6_1 : Int) := of_decide_eq_true (by first | (with_reducible assumption) | assumption)
                        have q158 : x6_1 < (l1.length : Int) := of_decide_eq_true (by first | (with_reducible assumption) | assumption)
                        obtain ⟨ad158, e158, hx158_0, hx158_1⟩ := at_T57 HR1.out x6_1 p158 q158
                        cases e158
                        replace hx158_0 := (HB.out.cell (World.block_lt_of_cell? w _ hx158_0)).trans hx158_0
                        replace hx158_1 := (HB.out.cell (World.block_lt_of_cell? w _ hx158_1)).trans hx158_1
                        replace p158 := eq_true p158
                        replace q158 := eq_true q158
                        have hcz25_0 : wr.cell? ⟨gb157, 0, none⟩ = some (.int .i32 a0_0) := (blk_cell BK157.out 0).trans rfl
                        have hcz25_1 : wr.cell? ⟨gb157, 1, none⟩ = some (.string a0_1) := (blk_cell BK157.out 1).trans rfl
                        have hcz25_2 : wr.cell? ⟨gb157, 2, none⟩ = some (.string a0_2) := (blk_cell BK157.out 2).trans rfl
                        have hcz25_3 : wr.cell? ⟨gb157, 3, none⟩ = some (.string a0_3) := (blk_cell BK157.out 3).trans rfl
                        have hcz25_4 : wr.cell? ⟨gb157, 4, none⟩ = some (.string a0_4) := (blk_cell BK157.out 4).trans rfl
                        have hcz25_5 : wr.cell? ⟨gb157, 5, none⟩ = some (.string a0_5) := (blk_cell BK157.out 5).trans rfl
                        have hcz25_6 : wr.cell? ⟨gb157, 6, none⟩ = some (.string a0_6) := (blk_cell BK157.out 6).trans rfl
                        have hcz25_7 : wr.cell? ⟨gb157, 7, none⟩ = some (.string a0_7) := (blk_cell BK157.out 7).trans rfl
                        have hcz25_8 : wr.cell? ⟨gb157, 8, none⟩ = some (.string a0_8) := (blk_cell BK157.out 8).trans rfl
                        have hfz25_0 := blk_frozen BK157.out 0
                        have hfz25_1 := blk_frozen BK157.out 1
                        have hfz25_2 := blk_frozen BK157.out 2
                        have hfz25_3 := blk_frozen BK157.out 3
                        have hfz25_4 := blk_frozen BK157.out 4
                        have hfz25_5 := blk_frozen BK157.out 5
                        have hfz25_6 := blk_frozen BK157.out 6
                        have hfz25_7 := blk_frozen BK157.out 7
                        have hfz25_8 := blk_frozen BK157.out 8
                        go_wp2
                        go_roundg k1
                        case measure => have := HK1.out; omega
                        case rel => exact ⟨(x5_1 ++ a0_7), (wrap64 (x6_1 + 1)), (by first | rfl | (simp; done) | (simp [*]; done) | (simp [bneNil_]; done)), (by first | rfl | (simp; done) | (simp [*]; done) | (simp [bneNil_]; done)), H', ⟨by have := HK1.out; omega⟩, ⟨by (with_reducible repeat (first | refine blk_drewN ?_ _ | refine blk_drew ?_ | refine blk_alloc ?_ _)); exact BK157.out⟩, ⟨by repeat (first | (with_reducible first | exact HB.out | apply below_alloc | apply pw_below_drewN | apply below_drew1 | refine below_set ?_ GE157.out) | exact HB.out)⟩⟩
                      · rw [if_neg c24] at H
                        exact absurd H (by simp)
                    · rw [if_neg c23] at H
                      have c23b0 : (((rd_T57 l1 x6_1).f0) == 6) = false := beq_eq_false_iff_ne.mpr c23
                      have c23b1 : (((rd_T57 l1 x6_1).f0) != 6) = true := bne_iff_ne.mpr c23
                      have H' := Aside0.mk H
                      clear H
                      have p158 : 0 ≤ (x6_1 : Int) := of_decide_eq_true (by first | (with_reducible assumption) | assumption)
                      have q158 : x6_1 < (l1.length : Int) := of_decide_eq_true (by first | (with_reducible assumption) | assumption)
                      obtain ⟨ad158, e158, hx158_0, hx158_1⟩ := at_T57 HR1.out x6_1 p158 q158
                      cases e158
                      replace hx158_0 := (HB.out.cell (World.block_lt_of_cell? w _ hx158_0)).trans hx158_0
                      replace hx158_1 := (HB.out.cell (World.block_lt_of_cell? w _ hx158_1)).trans hx158_1
                      replace p158 := eq_true p158
                      replace q158 := eq_true q158
                      go_wp2
                      go_roundg k1
                      case measure => have := HK1.out; omega
                      case rel => exact ⟨(x5_1), (wrap64 (x6_1 + 1)), (by first | rfl | (simp; done) | (simp [*]; done) | (simp [bneNil_]; done)), (by first | rfl | (simp; done) | (simp [*]; done) | (simp [bneNil_]; done)), H', ⟨by have := HK1.out; omega⟩, ⟨by (with_reducible repeat (first | refine blk_drewN ?_ _ | refine blk_drew ?_ | refine blk_alloc ?_ _)); exact BK157.out⟩, ⟨by repeat (first | (with_reducible first | exact HB.out | apply below_alloc | apply pw_below_drewN | apply below_drew1 | refine below_set ?_ GE157.out) | exact HB.out)⟩⟩
        · rw [if_neg c5] at H
          exact absurd H (by simp)
      · rw [if_neg c4] at H
        have c4b0 : decide (x6_1 < (l1.length : Int)) = false := decide_eq_false c4
        clear c4
        obtain rfl := Option.some.inj H
        go_wp2
        go_ret
        exact ⟨by first | rfl | (simp [errW_none, errW_some] <;> rfl) | (simp [*, errW_none, errW_some] <;> rfl), by repeat (first | (with_reducible first | exact HB.out | apply below_alloc | apply pw_below_drewN | apply below_drew1 | refine below_set ?_ GE157.out) | exact HB.out)⟩

/-! ### figureheadref18_Has: function 13 -/
mutual
def figureheadref18_Has.l0 : Nat → List Int → List Int → Int → Option (Bool)
  | 0, _, _, _ => none
  | k + 1, x1, x5, x7 => if x7 < (x5.length : Int) then (figureheadref18_Has.l1 k x1 x5 x7 0) else (some false)
def figureheadref18_Has.l1 : Nat → List Int → List Int → Int → Int → Option (Bool)
  | 0, _, _, _, _ => none
  | k + 1, x1, x5, x7, x8 => if x8 < (x1.length : Int) then (if 0 ≤ x7 then (if x7 < (x5.length : Int) then (if 0 ≤ x8 then (if (rd x5 x7) = (rd x1 x8) then (some true) else (figureheadref18_Has.l1 k x1 x5 x7 (wrap64 (x8 + 1)))) else (none)) else (none)) else (none)) else (figureheadref18_Has.l0 k x1 x5 (wrap64 (x7 + 1)))
end
def figureheadref18_Has.f (k : Nat) (a0 : ByteArray) (l1 : List Int) : Option (Bool) := (figureheadref11_Runes.f k a0).bind fun bt163 => (figureheadref18_Has.l0 k l1 bt163.1 0)
set_option maxHeartbeats 8000000 in
set_option maxRecDepth 100000 in
theorem figureheadref18_Has.calls (k : Nat) (a0 : ByteArray) (A1 : Option Addr) (c1 : Nat) (l1 : List Int) (r : Bool) (w : World) (hr1 : Kd.C (Kd.int .i32) w A1 l1.length l1) (hc1 : l1.length ≤ c1) (h : figureheadref18_Has.f k a0 l1 = some r) :
    Calls Try.prog 13 #[.string a0, .slice A1 l1.length c1] w fun e w' => e = .returned (.bool r) ∧ Below w.heap.size w w' := by
  have HR1 := Aside0.mk hr1
  have HC1 := Aside0.mk hc1
  clear hr1 hc1
  have HB := Aside0.mk (Below.refl w.heap.size w)
  have H : ((figureheadref11_Runes.f k a0).bind fun bt163 => (figureheadref18_Has.l0 k l1 bt163.1 0)) = some r := h
  clear h
  replace H := Option.bind_eq_some_iff.mp H
  obtain ⟨⟨t163, t164⟩, A30, H⟩ := H
  replace H : (figureheadref18_Has.l0 k l1 t163 0) = some r := H
  have A3 := Aside0.mk A30
  clear A30
  have H' := Aside0.mk H
  clear H
  go_enter Try.func13, Try.ntmps13
  go_wp2_with (first | (go_at_call 19; (with_reducible refine (figureheadref11_Runes.calls k a0 t163 t164 _ A3.out).mono ?_); rintro e w4 ⟨v165, rfl, ho0, hb⟩; have n0_ := Aside0.mk (Kd.R_lower ho0 (below_size (by repeat (first | (with_reducible first | exact HB.out | apply below_alloc | apply pw_below_drewN | apply below_drew1) | exact HB.out)))); have n1_ := Aside0.mk (below_step (by repeat (first | (with_reducible first | exact HB.out | apply below_alloc | apply pw_below_drewN | apply below_drew1) | exact HB.out)) hb); clear HB; have HO166 := n0_; have HB := n1_; clear n0_ n1_; (try clear hb); (try clear hb2); (try clear hk); (try clear hi); (try clear ho0)))
  repeat (go_quiet (first | (go_at_call 19; (with_reducible refine (figureheadref11_Runes.calls k a0 t163 t164 _ A3.out).mono ?_); rintro e w4 ⟨v165, rfl, ho0, hb⟩; have n0_ := Aside0.mk (Kd.R_lower ho0 (below_size (by repeat (first | (with_reducible first | exact HB.out | apply below_alloc | apply pw_below_drewN | apply below_drew1) | exact HB.out)))); have n1_ := Aside0.mk (below_step (by repeat (first | (with_reducible first | exact HB.out | apply below_alloc | apply pw_below_drewN | apply below_drew1) | exact HB.out)) hb); clear HB; have HO166 := n0_; have HB := n1_; clear n0_ n1_; (try clear hb); (try clear hb2); (try clear hk); (try clear hi); (try clear ho0))); try go_wp2_with (first | (go_at_call 19; (with_reducible refine (figureheadref11_Runes.calls k a0 t163 t164 _ A3.out).mono ?_); rintro e w4 ⟨v165, rfl, ho0, hb⟩; have n0_ := Aside0.mk (Kd.R_lower ho0 (below_size (by repeat (first | (with_reducible first | exact HB.out | apply below_alloc | apply pw_below_drewN | apply below_drew1) | exact HB.out)))); have n1_ := Aside0.mk (below_step (by repeat (first | (with_reducible first | exact HB.out | apply below_alloc | apply pw_below_drewN | apply below_drew1) | exact HB.out)) hb); clear HB; have HO166 := n0_; have HB := n1_; clear n0_ n1_; (try clear hb); (try clear hb2); (try clear hk); (try clear hi); (try clear ho0))))
  go_loopg [7] k (fun kq v7 w' => ∃ (x7_1 : Int), v7 = .int .i64 x7_1 ∧ Aside0 (figureheadref18_Has.l0 kq l1 t163 x7_1 = some r) ∧ Aside0 (kq ≤ k) ∧ Aside0 (Kd.R (Kd.int .i32) 21 w' w.heap.size (fun _ => True) v165 t163) ∧ Aside0 (Below w.heap.size w w'))
  case atStart => exact ⟨(0), (by first | rfl | (simp; done) | (simp [*]; done) | (simp [bneNil_]; done)), H', ⟨Nat.le_refl _⟩, ⟨by (with_reducible repeat (first | apply Kd.R_alloc | apply Kd.R_drewN | apply Kd.R_drew)); exact HO166.out⟩, ⟨by repeat (first | (with_reducible first | exact HB.out | apply below_alloc | apply pw_below_drewN | apply below_drew1) | exact HB.out)⟩⟩
  case round =>
    clear H'
    try clear c1
    try clear p2
    obtain ⟨x7_1, rfl, HA, HK1, HO_5, HB⟩ := hrel
    cases gk with
    | zero => exact absurd HA.out (by simp [figureheadref18_Has.l0])
    | succ k1 =>
      have H := HA.out
      clear HA
      simp only [figureheadref18_Has.l0] at H
      by_cases c5 : x7_1 < (t163.length : Int)
      · rw [if_pos c5] at H
        have c5b0 : decide (x7_1 < (t163.length : Int)) = true := decide_eq_true c5
        clear c5
        have H' := Aside0.mk H
        clear H
        obtain ⟨Ao6, co6, eo6⟩ := Kd.R_slice HO_5.out
        subst eo6
        go_wp2
        repeat (go_quiet (fail); try go_wp2)
        go_loopg [8] k1 (fun kq v8 w' => ∃ (x8_2 : Int), v8 = .int .i64 x8_2 ∧ Aside0 (figureheadref18_Has.l1 kq l1 t163 x7_1 x8_2 = some r) ∧ Aside0 (kq ≤ k1) ∧ Aside0 (Kd.R (Kd.int .i32) 21 w' w.heap.size (fun _ => True) (.slice Ao6 t163.length co6) t163) ∧ Aside0 (Below w.heap.size w w'))
        case atStart => exact ⟨(0), (by first | rfl | (simp; done) | (simp [*]; done) | (simp [bneNil_]; done)), H', ⟨Nat.le_refl _⟩, ⟨by (with_reducible repeat (first | apply Kd.R_alloc | apply Kd.R_drewN | apply Kd.R_drew)); exact HO_5.out⟩, ⟨by repeat (first | (with_reducible first | exact HB.out | apply below_alloc | apply pw_below_drewN | apply below_drew1) | exact HB.out)⟩⟩
        case round =>
          clear H'
          try clear c1
          try clear p2
          try clear c5
          try clear c5b0
          try clear p2
          obtain ⟨x8_2, rfl, HA, HK2, HO_5, HB⟩ := hrel
          cases gk with
          | zero => exact absurd HA.out (by simp [figureheadref18_Has.l1])
          | succ k2 =>
            have H := HA.out
            clear HA
            simp only [figureheadref18_Has.l1] at H
            by_cases c7 : x8_2 < (l1.length : Int)
            · rw [if_pos c7] at H
              have c7b0 : decide (x8_2 < (l1.length : Int)) = true := decide_eq_true c7
              clear c7
              by_cases c8 : 0 ≤ x7_1
              · rw [if_pos c8] at H
                have c8b0 : decide (0 ≤ x7_1) = true := decide_eq_true c8
                clear c8
                by_cases c9 : x7_1 < (t163.length : Int)
                · rw [if_pos c9] at H
                  have c9b0 : decide (x7_1 < (t163.length : Int)) = true := decide_eq_true c9
                  clear c9
                  by_cases c10 : 0 ≤ x8_2
                  · rw [if_pos c10] at H
                    have c10b0 : decide (0 ≤ x8_2) = true := decide_eq_true c10
                    clear c10
                    by_cases c11 : (rd t163 x7_1) = (rd l1 x8_2)
                    · rw [if_pos c11] at H
                      have c11b0 : ((rd t163 x7_1) == (rd l1 x8_2)) = true := beq_iff_eq.mpr c11
                      have c11b1 : ((rd t163 x7_1) != (rd l1 x8_2)) = false := bne_eq_false_iff_eq.mpr c11
                      clear c11
                      obtain rfl := Option.some.inj H
                      have p167 : 0 ≤ (x7_1 : Int) := of_decide_eq_true (by first | (with_reducible assumption) | assumption)
                      have q167 : x7_1 < (t163.length : Int) := of_decide_eq_true (by first | (with_reducible assumption) | assumption)
                      obtain ⟨ad167, e167, hx167_0⟩ := Kd.at_int (Kd.R_reads' HO_5.out).2.2 x7_1 p167 q167
                      cases e167
                      replace p167 := eq_true p167
                      replace q167 := eq_true q167
                      have p168 : 0 ≤ (x8_2 : Int) := of_decide_eq_true (by first | (with_reducible assumption) | assumption)
                      have q168 : x8_2 < (l1.length : Int) := of_decide_eq_true (by first | (with_reducible assumption) | assumption)
                      obtain ⟨ad168, e168, hx168_0⟩ := Kd.at_int HR1.out x8_2 p168 q168
                      cases e168
                      replace hx168_0 := (HB.out.cell (World.block_lt_of_cell? w _ hx168_0)).trans hx168_0
                      replace p168 := eq_true p168
                      replace q168 := eq_true q168
                      go_wp2
                      repeat (go_quiet (fail); try go_wp2)
                      go_ret
                      exact ⟨by first | rfl | (simp [errW_none, errW_some] <;> rfl) | (simp [*, errW_none, errW_some] <;> rfl), by repeat (first | (with_reducible first | exact HB.out | apply below_alloc | apply pw_below_drewN | apply below_drew1) | exact HB.out)⟩
                    · rw [if_neg c11] at H
                      have c11b0 : ((rd t163 x7_1) == (rd l1 x8_2)) = false := beq_eq_false_iff_ne.mpr c11
                      have c11b1 : ((rd t163 x7_1) != (rd l1 x8_2)) = true := bne_iff_ne.mpr c11
                      have H' := Aside0.mk H
                      clear H
                      have p167 : 0 ≤ (x7_1 : Int) := of_decide_eq_true (by first | (with_reducible assumption) | assumption)
                      have q167 : x7_1 < (t163.length : Int) := of_decide_eq_true (by first | (with_reducible assumption) | assumption)
                      obtain ⟨ad167, e167, hx167_0⟩ := Kd.at_int (Kd.R_reads' HO_5.out).2.2 x7_1 p167 q167
                      cases e167
                      replace p167 := eq_true p167
                      replace q167 := eq_true q167
                      have p168 : 0 ≤ (x8_2 : Int) := of_decide_eq_true (by first | (with_reducible assumption) | assumption)
                      have q168 : x8_2 < (l1.length : Int) := of_decide_eq_true (by first | (with_reducible assumption) | assumption)
                      obtain ⟨ad168, e168, hx168_0⟩ := Kd.at_int HR1.out x8_2 p168 q168
                      cases e168
                      replace hx168_0 := (HB.out.cell (World.block_lt_of_cell? w _ hx168_0)).trans hx168_0
                      replace p168 := eq_true p168
                      replace q168 := eq_true q168
                      go_wp2
                      repeat (go_quiet (fail); try go_wp2)
                      go_roundg k2
                      case measure => have := HK1.out; have := HK2.out; omega
                      case rel => exact ⟨(wrap64 (x8_2 + 1)), (by first | rfl | (simp; done) | (simp [*]; done) | (simp [bneNil_]; done)), H', ⟨by have := HK1.out; have := HK2.out; omega⟩, ⟨by (with_reducible repeat (first | apply Kd.R_alloc | apply Kd.R_drewN | apply Kd.R_drew)); exact HO_5.out⟩, ⟨by repeat (first | (with_reducible first | exact HB.out | apply below_alloc | apply pw_below_drewN | apply below_drew1) | exact HB.out)⟩⟩
                  · rw [if_neg c10] at H
                    exact absurd H (by simp)
                · rw [if_neg c9] at H
                  exact absurd H (by simp)
              · rw [if_neg c8] at H
                exact absurd H (by simp)
            · rw [if_neg c7] at H
              have c7b0 : decide (x8_2 < (l1.length : Int)) = false := decide_eq_false c7
              clear c7
              have H' := Aside0.mk H
              clear H
              go_wp2
              repeat (go_quiet (fail); try go_wp2)
              go_roundg k2
              case measure => have := HK1.out; have := HK2.out; omega
              case rel => exact ⟨(wrap64 (x7_1 + 1)), (by first | rfl | (simp; done) | (simp [*]; done) | (simp [bneNil_]; done)), H', ⟨by have := HK1.out; have := HK2.out; omega⟩, ⟨by (with_reducible repeat (first | apply Kd.R_alloc | apply Kd.R_drewN | apply Kd.R_drew)); exact HO_5.out⟩, ⟨by repeat (first | (with_reducible first | exact HB.out | apply below_alloc | apply pw_below_drewN | apply below_drew1) | exact HB.out)⟩⟩
      · rw [if_neg c5] at H
        have c5b0 : decide (x7_1 < (t163.length : Int)) = false := decide_eq_false c5
        clear c5
        obtain rfl := Option.some.inj H
        obtain ⟨Ao12, co12, eo12⟩ := Kd.R_slice HO_5.out
        subst eo12
        go_wp2
        repeat (go_quiet (fail); try go_wp2)
        go_ret
        exact ⟨by first | rfl | (simp [errW_none, errW_some] <;> rfl) | (simp [*, errW_none, errW_some] <;> rfl), by repeat (first | (with_reducible first | exact HB.out | apply below_alloc | apply pw_below_drewN | apply below_drew1) | exact HB.out)⟩

/-! ### figureheadref18_Ends: function 30 -/
def figureheadref18_Ends.f (a0 : ByteArray) (a1 : ByteArray) : Option (Bool) := if (a0.size : Int) ≥ (a1.size : Int) then (if 0 ≤ (wrap64 ((a0.size : Int) - (a1.size : Int))) then (if (wrap64 ((a0.size : Int) - (a1.size : Int))) ≤ (a0.size : Int) then (some ((a0.extract ((wrap64 ((a0.size : Int) - (a1.size : Int))) : Int).toNat a0.size).toList == a1.toList)) else (none)) else (none)) else (some false)
set_option maxHeartbeats 8000000 in
set_option maxRecDepth 100000 in
theorem figureheadref18_Ends.calls (a0 : ByteArray) (a1 : ByteArray) (r : Bool) (w : World) (h : figureheadref18_Ends.f a0 a1 = some r) :
    Calls Try.prog 30 #[.string a0, .string a1] w fun e w' => e = .returned (.bool r) ∧ Drawn0 w w' := by
  have H : (if (a0.size : Int) ≥ (a1.size : Int) then (if 0 ≤ (wrap64 ((a0.size : Int) - (a1.size : Int))) then (if (wrap64 ((a0.size : Int) - (a1.size : Int))) ≤ (a0.size : Int) then (some ((a0.extract ((wrap64 ((a0.size : Int) - (a1.size : Int))) : Int).toNat a0.size).toList == a1.toList)) else (none)) else (none)) else (some false)) = some r := h
  clear h
  by_cases c3 : (a0.size : Int) ≥ (a1.size : Int)
  · rw [if_pos c3] at H
    have c3b0 : decide ((a1.size : Int) ≤ (a0.size : Int)) = true := decide_eq_true c3
    have c3b1 : decide (a1.size ≤ a0.size) = true := decide_eq_true (Int.ofNat_le.mp c3)
    clear c3
    obtain ⟨ji4, hji4⟩ : ∃ j_ : Int, (wrap64 ((a0.size : Int) - (a1.size : Int))) = j_ := ⟨_, rfl⟩
    replace H : (if 0 ≤ (ji4) then (if (ji4) ≤ (a0.size : Int) then (some ((a0.extract ((ji4) : Int).toNat a0.size).toList == a1.toList)) else (none)) else (none)) = some r := by first | (rw [hji4] at H; exact H) | (simp only [hji4] at H ⊢; exact H)
    have hji4w : (IntKind.i64.wrap ((a0.size : Int) - (a1.size : Int))) = ji4 := (i64_w _).trans hji4
    by_cases c5 : 0 ≤ (ji4)
    · rw [if_pos c5] at H
      have c5b0 := eq_true c5
      have c5b1 : decide (0 ≤ (ji4)) = true := decide_eq_true c5
      clear c5
      by_cases c6 : (ji4) ≤ (a0.size : Int)
      · rw [if_pos c6] at H
        have c6b0 := eq_true c6
        have c6b1 : decide ((ji4) ≤ (a0.size : Int)) = true := decide_eq_true c6
        clear c6
        obtain rfl := Option.some.inj H
        go_enter Try.func30, Try.ntmps30
        go_wp2
        go_ret
        exact ⟨by first | rfl | (simp; done) | (simp only [← hji4] <;> (first | rfl | simp)) | (simp [*]; done) | (simp [bneNil_]; done), by repeat (first | exact Drawn0.refl _ | apply Drawn0.step)⟩
      · rw [if_neg c6] at H
        exact absurd H (by simp)
    · rw [if_neg c5] at H
      exact absurd H (by simp)
  · rw [if_neg c3] at H
    have c3b0 : decide ((a1.size : Int) ≤ (a0.size : Int)) = false := decide_eq_false c3
    have c3b1 : decide (a1.size ≤ a0.size) = false := decide_eq_false (fun h => c3 (Int.ofNat_le.mpr h))
    clear c3
    obtain rfl := Option.some.inj H
    go_enter Try.func30, Try.ntmps30
    go_wp2
    go_ret
    exact ⟨by first | rfl | (simp; done) | (simp [*]; done) | (simp [bneNil_]; done), by repeat (first | exact Drawn0.refl _ | apply Drawn0.step)⟩

-- FOREIGN: function 3 (figureheadlaw21_ClearTells)

end Go.Proofs.Ytkgdpgoianimjaa.Print
