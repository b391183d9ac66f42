/- Functions of the program as Lean functions, and that the program's calls answer so: printed by this session's own program (wip/tools/pext.py) out of the translation. Conditions: each theorem's own. Not trusted: Lean checks it. -/
import Derived.Test.YtegndehoiodjeaaDoorPrint0
import Derived.Test.YtegndehoiodjeaaDoorFRh
namespace Go.Proofs.YtegndehoiodjeaaDoor.Print
open Go.RowKit Go.Proofs.YtegndehoiodjeaaDoorW.PrintWords Go.Proofs.YtegndehoiodjeaaDoorW.PrintLast Go.Proofs.YtegndehoiodjeaaDoorW.PrintMore
attribute [local go_sem] max2_int min2_int max_two min_two max_three min_three max_four min_four   -- for this text's walks alone
set_option linter.unusedVariables false
set_option linter.unusedSimpArgs false

/-! ### figureheadref25_up: function 43 -/
def figureheadref25_up.l0 : Nat → Int → ByteArray → Option (ByteArray)
  | 0, _, _ => none
  | k + 1, x0, x3 => if x0 ≥ 10 then ((some (([(IntKind.u64.wrap (48 + (Int.tmod x0 10))) % 256] : List Int) : List Int)).bind fun y188 => (if (strOfNums y188).size + x3.size ≤ 9223372036854775807 then (figureheadref25_up.l0 k (IntKind.u64.wrap (Int.tdiv x0 10)) ((strOfNums y188) ++ x3)) else (none))) else ((some (([(IntKind.u64.wrap (48 + x0)) % 256] : List Int) : List Int)).bind fun y191 => (if (strOfNums y191).size + x3.size ≤ 9223372036854775807 then (some ((strOfNums y191) ++ x3)) else (none)))
def figureheadref25_up.f (k : Nat) (a0 : Int) : Option (ByteArray) := figureheadref25_up.l0 k a0 (⟨#[]⟩ : ByteArray)
theorem figureheadref25_up.mono_l : ∀ k, (∀ y0 y1, LeO (figureheadref25_up.l0 k y0 y1) (figureheadref25_up.l0 (k + 1) y0 y1))
  | 0 => fun _ _ r h => by simp [figureheadref25_up.l0] at h
  | k + 1 => by
    have ih0 := figureheadref25_up.mono_l k
    · intro y0 y1
      unfold figureheadref25_up.l0
      repeat' first
      | (with_reducible exact ih0 _ _)
      | (with_reducible exact LeO.refl _)
      | (with_reducible exact LeO.none _)
      | (with_reducible refine LeO.ite ?_ ?_)
      | (with_reducible refine LeO.bind ?_ (fun _ => ?_))
      | exact ih0 _ _
      | exact LeO.none _
      | refine LeO.ite ?_ ?_
      | refine LeO.bind ?_ (fun _ => ?_)
theorem figureheadref25_up.mono : ∀ a0 k, LeO (figureheadref25_up.f k a0) (figureheadref25_up.f (k + 1) a0) := by
  intro a0 k
  have ih0 := figureheadref25_up.mono_l k
  unfold figureheadref25_up.f
  repeat' first
      | (with_reducible exact ih0 _ _)
      | (with_reducible exact LeO.refl _)
      | (with_reducible exact LeO.none _)
      | (with_reducible refine LeO.ite ?_ ?_)
      | (with_reducible refine LeO.bind ?_ (fun _ => ?_))
      | exact ih0 _ _
      | exact LeO.none _
      | refine LeO.ite ?_ ?_
      | refine LeO.bind ?_ (fun _ => ?_)
set_option maxHeartbeats 8000000 in
set_option maxRecDepth 100000 in
theorem figureheadref25_up.calls (k : Nat) (a0 : Int) (r : ByteArray) (w : World) (h : figureheadref25_up.f k a0 = some r) :
    Calls Tryd.prog 43 #[.int .u64 a0] w fun e w' => e = .returned (.string r) ∧ Below w.heap.size w w' := by
  have HB := Aside0.mk (Below.refl w.heap.size w)
  have H : (figureheadref25_up.l0 k a0 (⟨#[]⟩ : ByteArray)) = some r := h
  clear h
  have H' := Aside0.mk H
  clear H
  go_enter Tryd.func43, Tryd.ntmps43
  go_wp2
  go_loopg [0, 3] k (fun kq v0 v3 w' => ∃ (x0_1 : Int) (x3_1 : ByteArray), v0 = .int .u64 x0_1 ∧ v3 = .string x3_1 ∧ Aside0 (figureheadref25_up.l0 kq x0_1 x3_1 = some r) ∧ Aside0 (kq ≤ k) ∧ Aside0 (Below w.heap.size w w'))
  case atStart => exact ⟨(a0), ((⟨#[]⟩ : ByteArray)), (by first | rfl | (simp; done) | (simp [*]; done) | (simp [bneNil_]; done)), (by first | rfl | (simp; done) | (simp [*]; done) | (simp [bneNil_]; done)), H', ⟨Nat.le_refl _⟩, ⟨by repeat (first | (with_reducible first | exact HB.out | apply below_alloc | apply pw_below_drewN | apply below_drew1) | exact HB.out)⟩⟩
  case round =>
    clear H'
    obtain ⟨x0_1, x3_1, rfl, rfl, HA, HK1, HB⟩ := hrel
    cases gk with
    | zero => exact absurd HA.out (by simp [figureheadref25_up.l0])
    | succ k1 =>
      have H := HA.out
      clear HA
      simp only [figureheadref25_up.l0] at H
      by_cases c2 : x0_1 ≥ 10
      · rw [if_pos c2] at H
        have c2b0 : decide (10 ≤ x0_1) = true := decide_eq_true c2
        clear c2
        obtain ⟨y188, hy188⟩ : ∃ y_ : List Int, y_ = (([(IntKind.u64.wrap (48 + (Int.tmod x0_1 10))) % 256] : List Int)) := ⟨_, rfl⟩
        replace H : (if (strOfNums y188).size + x3_1.size ≤ 9223372036854775807 then (figureheadref25_up.l0 k1 (IntKind.u64.wrap (Int.tdiv x0_1 10)) ((strOfNums y188) ++ x3_1)) else (none)) = some r := by first | (rw [hy188]; with_reducible exact H) | (have H2_ := (Option.bind_some _ _).symm.trans H; rw [hy188]; with_reducible exact H2_) | (have H2_ := (Option.bind_some _ _).symm.trans H; with_reducible exact H2_) | with_reducible exact H | (rw [hy188]; exact H) | exact H
        have Ny188 := Aside0.mk hy188
        clear hy188
        by_cases c3 : (strOfNums y188).size + x3_1.size ≤ 9223372036854775807
        · rw [if_pos c3] at H
          have c3b0 := eq_true c3
          have c3b1 : decide ((strOfNums y188).size + x3_1.size ≤ 9223372036854775807) = true := decide_eq_true c3
          try have c3b2 : (9223372036854775807 < (strOfNums y188).size + x3_1.size) = False := eq_false (Nat.not_lt.2 c3)
          have H' := Aside0.mk H
          clear H
          go_wp2_with (first | ((with_reducible refine gate_dst (N := 10) rfl ?_); refine Kd.R_lit (Kd.int .u8) _ 5 ?hg (N := 10) ?hd (xs := ([(IntKind.u64.wrap (48 + (Int.tmod x0_1 10))) % 256] : List Int)) (inner := [.int .u8 ((IntKind.u64.wrap (48 + (Int.tmod x0_1 10))) % 256)]) (ok := fun _ => True) (okp := fun _ => True) ?hr ?hp (fun _ hk => hk) trivial (Below.refl _ _) (Nat.le_refl _) (by simp) ?_; (case hd => rfl); (case hg => rfl); (case hr => first | (go_simp; done) | (go_simp; rfl)); (case hp => exact (Reps.one (show Kd.M (Kd.int .u8) _ _ _ ((IntKind.u64.wrap (48 + (Int.tmod x0_1 10))) % 256) [.int .u8 ((IntKind.u64.wrap (48 + (Int.tmod x0_1 10))) % 256)] from rfl) (Reps.none _ _))); intro v189 w4 ho5 hb hg_ hnew_; clear hg_ hnew_; (first | rw [← Ny188.out] at ho5 | (simp only [Int.reduceToNat] at ho5; rw [← Ny188.out] at ho5)); have n0_ := Aside0.mk (Kd.R_lower ho5 (below_size (by repeat (first | (with_reducible first | exact HB.out | apply below_alloc | apply pw_below_drewN | apply below_drew1) | exact HB.out)))); have n1_ := Aside0.mk (below_step (by repeat (first | (with_reducible first | exact HB.out | apply below_alloc | apply pw_below_drewN | apply below_drew1) | exact HB.out)) hb); clear HB; have HO190 := n0_; have HB := n1_; clear n0_ n1_; clear hb ho5; have hcv6 := own_string (P := Tryd.prog) Tryd.underlying50 Tryd.underlying5 Tryd.underlying9 (Kd.own_of_R HO190.out)))
          go_roundg k1
          case measure => have := HK1.out; omega
          case rel => exact ⟨(IntKind.u64.wrap (Int.tdiv x0_1 10)), ((strOfNums y188) ++ x3_1), (by first | rfl | (simp; done) | (simp [*]; done) | (simp [bneNil_]; done)), (by first | rfl | (simp; done) | (simp [*]; done) | (simp [bneNil_]; done)), H', ⟨by have := HK1.out; omega⟩, ⟨by repeat (first | (with_reducible first | exact HB.out | apply below_alloc | apply pw_below_drewN | apply below_drew1) | exact HB.out)⟩⟩
        · rw [if_neg c3] at H
          exact absurd H (by simp)
      · rw [if_neg c2] at H
        have c2b0 : decide (10 ≤ x0_1) = false := decide_eq_false c2
        clear c2
        obtain ⟨y191, hy191⟩ : ∃ y_ : List Int, y_ = (([(IntKind.u64.wrap (48 + x0_1)) % 256] : List Int)) := ⟨_, rfl⟩
        replace H : (if (strOfNums y191).size + x3_1.size ≤ 9223372036854775807 then (some ((strOfNums y191) ++ x3_1)) else (none)) = some r := by first | (rw [hy191]; with_reducible exact H) | (have H2_ := (Option.bind_some _ _).symm.trans H; rw [hy191]; with_reducible exact H2_) | (have H2_ := (Option.bind_some _ _).symm.trans H; with_reducible exact H2_) | with_reducible exact H | (rw [hy191]; exact H) | exact H
        have Ny191 := Aside0.mk hy191
        clear hy191
        by_cases c7 : (strOfNums y191).size + x3_1.size ≤ 9223372036854775807
        · rw [if_pos c7] at H
          have c7b0 := eq_true c7
          have c7b1 : decide ((strOfNums y191).size + x3_1.size ≤ 9223372036854775807) = true := decide_eq_true c7
          try have c7b2 : (9223372036854775807 < (strOfNums y191).size + x3_1.size) = False := eq_false (Nat.not_lt.2 c7)
          obtain rfl := Option.some.inj H
          go_wp2_with (first | ((with_reducible refine gate_dst (N := 19) rfl ?_); refine Kd.R_lit (Kd.int .u8) _ 5 ?hg (N := 19) ?hd (xs := ([(IntKind.u64.wrap (48 + x0_1)) % 256] : List Int)) (inner := [.int .u8 ((IntKind.u64.wrap (48 + x0_1)) % 256)]) (ok := fun _ => True) (okp := fun _ => True) ?hr ?hp (fun _ hk => hk) trivial (Below.refl _ _) (Nat.le_refl _) (by simp) ?_; (case hd => rfl); (case hg => rfl); (case hr => first | (go_simp; done) | (go_simp; rfl)); (case hp => exact (Reps.one (show Kd.M (Kd.int .u8) _ _ _ ((IntKind.u64.wrap (48 + x0_1)) % 256) [.int .u8 ((IntKind.u64.wrap (48 + x0_1)) % 256)] from rfl) (Reps.none _ _))); intro v192 w8 ho9 hb hg_ hnew_; clear hg_ hnew_; (first | rw [← Ny191.out] at ho9 | (simp only [Int.reduceToNat] at ho9; rw [← Ny191.out] at ho9)); have n0_ := Aside0.mk (Kd.R_lower ho9 (below_size (by repeat (first | (with_reducible first | exact HB.out | apply below_alloc | apply pw_below_drewN | apply below_drew1) | exact HB.out)))); have n1_ := Aside0.mk (below_step (by repeat (first | (with_reducible first | exact HB.out | apply below_alloc | apply pw_below_drewN | apply below_drew1) | exact HB.out)) hb); clear HB; have HO193 := n0_; have HB := n1_; clear n0_ n1_; clear hb ho9; have hcv10 := own_string (P := Tryd.prog) Tryd.underlying50 Tryd.underlying5 Tryd.underlying9 (Kd.own_of_R HO193.out)))
          go_ret
          exact ⟨by first | rfl | (simp [errW_none, errW_some] <;> rfl) | (simp [*, errW_none, errW_some] <;> rfl), by repeat (first | (with_reducible first | exact HB.out | apply below_alloc | apply pw_below_drewN | apply below_drew1) | exact HB.out)⟩
        · rw [if_neg c7] at H
          exact absurd H (by simp)

/-! ### figureheadref25_Dec: function 33 -/
def figureheadref25_Dec.f (k : Nat) (a0 : Int) : Option (ByteArray) := if a0 ≥ 0 then ((figureheadref25_up.f k (IntKind.u64.wrap (a0))).bind fun t194 => (some t194)) else ((figureheadref25_up.f k (IntKind.u64.wrap ((IntKind.u64.wrap (wrap64 (-(wrap64 (a0 + 1))))) + 1))).bind fun t195 => (if 1 + t195.size ≤ 9223372036854775807 then (some ((⟨#[45]⟩ : ByteArray) ++ t195)) else (none)))
theorem figureheadref25_Dec.mono : ∀ a0 k, LeO (figureheadref25_Dec.f k a0) (figureheadref25_Dec.f (k + 1) a0) := by
  intro a0 k
  unfold figureheadref25_Dec.f
  repeat' first
      | (with_reducible exact figureheadref25_up.mono _ _)
      | (with_reducible exact LeO.refl _)
      | (with_reducible exact LeO.none _)
      | (with_reducible refine LeO.ite ?_ ?_)
      | (with_reducible refine LeO.bind ?_ (fun _ => ?_))
      | exact figureheadref25_up.mono _ _
      | exact LeO.none _
      | refine LeO.ite ?_ ?_
      | refine LeO.bind ?_ (fun _ => ?_)
set_option maxHeartbeats 8000000 in
set_option maxRecDepth 100000 in
theorem figureheadref25_Dec.calls (k : Nat) (a0 : Int) (r : ByteArray) (w : World) (h : figureheadref25_Dec.f k a0 = some r) :
    Calls Tryd.prog 33 #[.int .i64 a0] w fun e w' => e = .returned (.string r) ∧ Below w.heap.size w w' := by
  have HB := Aside0.mk (Below.refl w.heap.size w)
  have H : (if a0 ≥ 0 then ((figureheadref25_up.f k (IntKind.u64.wrap (a0))).bind fun t194 => (some t194)) else ((figureheadref25_up.f k (IntKind.u64.wrap ((IntKind.u64.wrap (wrap64 (-(wrap64 (a0 + 1))))) + 1))).bind fun t195 => (if 1 + t195.size ≤ 9223372036854775807 then (some ((⟨#[45]⟩ : ByteArray) ++ t195)) else (none)))) = some r := h
  clear h
  by_cases c2 : a0 ≥ 0
  · rw [if_pos c2] at H
    have c2b0 : decide (0 ≤ a0) = true := decide_eq_true c2
    clear c2
    replace H := Option.bind_eq_some_iff.mp H
    obtain ⟨t194, A30, H⟩ := H
    replace H : (some t194) = some r := H
    have A3 := Aside0.mk A30
    clear A30
    obtain rfl := Option.some.inj H
    go_enter Tryd.func33, Tryd.ntmps33
    go_wp2_with (first | ((with_reducible refine gate_callee (f := 43) rfl ?_); refine goesL_ (some 7) rfl rfl Tryd.func43 (by kernel_rfl) rfl #[.int .u64 (IntKind.u64.wrap (a0))] rfl (by (try simp only [List.map_toArray, List.map_cons, List.map_nil]); first | done | rfl | (simp only [List.length_drop, List.length_take]; rfl)) ?_; (with_reducible refine (figureheadref25_up.calls k (IntKind.u64.wrap (a0)) t194 _ A3.out).mono ?_); rintro e w4 ⟨rfl, hb⟩; refine ⟨_, rfl, ?_⟩; have n0_ := Aside0.mk (below_step (by repeat (first | (with_reducible first | exact HB.out | apply below_alloc | apply pw_below_drewN | apply below_drew1) | exact HB.out)) hb); clear HB; have HB := n0_; clear n0_; (try clear hb); (try clear hb2); (try clear hk); (try clear hi)))
    go_ret
    exact ⟨by first | rfl | (simp [errW_none, errW_some] <;> rfl) | (simp [*, errW_none, errW_some] <;> rfl), by repeat (first | (with_reducible first | exact HB.out | apply below_alloc | apply pw_below_drewN | apply below_drew1) | exact HB.out)⟩
  · rw [if_neg c2] at H
    have c2b0 : decide (0 ≤ a0) = false := decide_eq_false c2
    clear c2
    replace H := Option.bind_eq_some_iff.mp H
    obtain ⟨t195, A50, H⟩ := H
    replace H : (if 1 + t195.size ≤ 9223372036854775807 then (some ((⟨#[45]⟩ : ByteArray) ++ t195)) else (none)) = some r := H
    have A5 := Aside0.mk A50
    clear A50
    by_cases c6 : 1 + t195.size ≤ 9223372036854775807
    · rw [if_pos c6] at H
      have c6b0 := eq_true c6
      have c6b1 : decide (1 + t195.size ≤ 9223372036854775807) = true := decide_eq_true c6
      try have c6b2 : (9223372036854775807 < 1 + t195.size) = False := eq_false (Nat.not_lt.2 c6)
      obtain rfl := Option.some.inj H
      go_enter Tryd.func33, Tryd.ntmps33
      go_wp2_with (first | ((with_reducible refine gate_callee (f := 43) rfl ?_); refine goesL_ (some 13) rfl rfl Tryd.func43 (by kernel_rfl) rfl #[.int .u64 (IntKind.u64.wrap ((IntKind.u64.wrap (wrap64 (-(wrap64 (a0 + 1))))) + 1))] rfl (by (try simp only [List.map_toArray, List.map_cons, List.map_nil]); first | done | rfl | (simp only [List.length_drop, List.length_take]; rfl)) ?_; (with_reducible refine (figureheadref25_up.calls k (IntKind.u64.wrap ((IntKind.u64.wrap (wrap64 (-(wrap64 (a0 + 1))))) + 1)) t195 _ A5.out).mono ?_); rintro e w7 ⟨rfl, hb⟩; refine ⟨_, rfl, ?_⟩; have n0_ := Aside0.mk (below_step (by repeat (first | (with_reducible first | exact HB.out | apply below_alloc | apply pw_below_drewN | apply below_drew1) | exact HB.out)) hb); clear HB; have HB := n0_; clear n0_; (try clear hb); (try clear hb2); (try clear hk); (try clear hi)))
      go_ret
      exact ⟨by first | rfl | (simp [errW_none, errW_some] <;> rfl) | (simp [*, errW_none, errW_some] <;> rfl), by repeat (first | (with_reducible first | exact HB.out | apply below_alloc | apply pw_below_drewN | apply below_drew1) | exact HB.out)⟩
    · rw [if_neg c6] at H
      exact absurd H (by simp)

/-! ### figureheadref25_bit: function 34 -/
def figureheadref25_bit.f (a0 : Bool) : Option (ByteArray) := if a0 = true then (some (⟨#[49]⟩ : ByteArray)) else (some (⟨#[48]⟩ : ByteArray))
set_option maxHeartbeats 8000000 in
set_option maxRecDepth 100000 in
theorem figureheadref25_bit.calls (a0 : Bool) (r : ByteArray) (w : World) (h : figureheadref25_bit.f a0 = some r) :
    Calls Tryd.prog 34 #[.bool a0] w fun e w' => e = .returned (.string r) ∧ Drawn0 w w' := by
  have H : (if a0 = true then (some (⟨#[49]⟩ : ByteArray)) else (some (⟨#[48]⟩ : ByteArray))) = some r := h
  clear h
  by_cases c2 : a0 = true
  · subst c2
    have H1 : (some (⟨#[49]⟩ : ByteArray)) = some r := by rw [if_pos rfl] at H; exact H
    clear H
    have H := H1
    clear H1
    obtain rfl := Option.some.inj H
    go_enter Tryd.func34, Tryd.ntmps34
    go_wp2
    go_ret
    exact ⟨by first | rfl | (simp; done) | (simp [*]; done) | (simp [bneNil_]; done), by repeat (first | exact Drawn0.refl _ | apply Drawn0.step)⟩
  · replace c2 := Bool.eq_false_iff.mpr c2
    subst c2
    have H1 : (some (⟨#[48]⟩ : ByteArray)) = some r := by rw [if_neg (show ¬ (false = true) by decide)] at H; exact H
    clear H
    have H := H1
    clear H1
    obtain rfl := Option.some.inj H
    go_enter Tryd.func34, Tryd.ntmps34
    go_wp2
    go_ret
    exact ⟨by first | rfl | (simp; done) | (simp [*]; done) | (simp [bneNil_]; done), by repeat (first | exact Drawn0.refl _ | apply Drawn0.step)⟩

/-! ### figureheadref25_Line: function 23 -/
def figureheadref25_Line.l0 : Nat → ByteArray → List ByteArray → Int → Int → Option (ByteArray)
  | 0, _, _, _, _ => none
  | k + 1, x3, x64, x65, x66 => if x66 < x65 then (if 0 ≤ x66 then (if x66 < (x64.length : Int) then (if x3.size + 2 ≤ 9223372036854775807 then ((figureheadref25_Hex.f (rdOf ByteArray.empty x64 x66)).bind fun t206 => (if (x3 ++ (⟨#[32, 120]⟩ : ByteArray)).size + t206.size ≤ 9223372036854775807 then (figureheadref25_Line.l0 k ((x3 ++ (⟨#[32, 120]⟩ : ByteArray)) ++ t206) x64 x65 (wrap64 (x66 + 1))) else (none))) else (none)) else (none)) else (none)) else (if x3.size + 1 ≤ 9223372036854775807 then (some (x3 ++ (⟨#[10]⟩ : ByteArray))) else (none))
def figureheadref25_Line.f (k : Nat) (a0_0 : Int) (a0_1 : Int) (a0_2 : ByteArray) (a0_3 : Int) (a0_4 : ByteArray) (a0_5 : ByteArray) (a0_6 : ByteArray) (a0_7 : ByteArray) (a0_8 : ByteArray) (a0_9 : ByteArray) (a0_10 : ByteArray) (a0_11 : ByteArray) (a0_12 : Bool) (a0_13 : ByteArray) (a0_14 : Int) (a0_15 : ByteArray) : Option (ByteArray) := (figureheadref25_Dec.f k a0_0).bind fun t197 => (if t197.size + 1 ≤ 9223372036854775807 then ((figureheadref25_Dec.f k a0_1).bind fun t198 => (if (t197 ++ (⟨#[32]⟩ : ByteArray)).size + t198.size ≤ 9223372036854775807 then (if ((t197 ++ (⟨#[32]⟩ : ByteArray)) ++ t198).size + 1 ≤ 9223372036854775807 then ((figureheadref25_Dec.f k (wrap64 (a0_3))).bind fun t199 => (if (((t197 ++ (⟨#[32]⟩ : ByteArray)) ++ t198) ++ (⟨#[32]⟩ : ByteArray)).size + t199.size ≤ 9223372036854775807 then (if ((((t197 ++ (⟨#[32]⟩ : ByteArray)) ++ t198) ++ (⟨#[32]⟩ : ByteArray)) ++ t199).size + 1 ≤ 9223372036854775807 then ((figureheadref25_Dec.f k a0_14).bind fun t200 => (if (((((t197 ++ (⟨#[32]⟩ : ByteArray)) ++ t198) ++ (⟨#[32]⟩ : ByteArray)) ++ t199) ++ (⟨#[32]⟩ : ByteArray)).size + t200.size ≤ 9223372036854775807 then (if ((((((t197 ++ (⟨#[32]⟩ : ByteArray)) ++ t198) ++ (⟨#[32]⟩ : ByteArray)) ++ t199) ++ (⟨#[32]⟩ : ByteArray)) ++ t200).size + 1 ≤ 9223372036854775807 then ((figureheadref25_bit.f a0_12).bind fun t201 => (if (((((((t197 ++ (⟨#[32]⟩ : ByteArray)) ++ t198) ++ (⟨#[32]⟩ : ByteArray)) ++ t199) ++ (⟨#[32]⟩ : ByteArray)) ++ t200) ++ (⟨#[32]⟩ : ByteArray)).size + t201.size ≤ 9223372036854775807 then ((some (([a0_2, a0_15, a0_13, a0_4, a0_5, a0_6, a0_7, a0_8, a0_9, a0_10, a0_11] : List ByteArray) : List ByteArray)).bind fun y202 => (figureheadref25_Line.l0 k ((((((((t197 ++ (⟨#[32]⟩ : ByteArray)) ++ t198) ++ (⟨#[32]⟩ : ByteArray)) ++ t199) ++ (⟨#[32]⟩ : ByteArray)) ++ t200) ++ (⟨#[32]⟩ : ByteArray)) ++ t201) y202 (y202.length : Int) 0)) else (none))) else (none)) else (none))) else (none)) else (none))) else (none)) else (none))) else (none))
theorem figureheadref25_Line.mono_l : ∀ k, (∀ y0 y1 y2 y3, LeO (figureheadref25_Line.l0 k y0 y1 y2 y3) (figureheadref25_Line.l0 (k + 1) y0 y1 y2 y3))
  | 0 => fun _ _ _ _ r h => by simp [figureheadref25_Line.l0] at h
  | k + 1 => by
    have ih0 := figureheadref25_Line.mono_l k
    · intro y0 y1 y2 y3
      unfold figureheadref25_Line.l0
      repeat' first
      | (with_reducible exact ih0 _ _ _ _)
      | (with_reducible exact figureheadref25_Dec.mono _ _)
      | (with_reducible exact LeO.refl _)
      | (with_reducible exact LeO.none _)
      | (with_reducible refine LeO.ite ?_ ?_)
      | (with_reducible refine LeO.bind ?_ (fun _ => ?_))
      | exact ih0 _ _ _ _
      | exact figureheadref25_Dec.mono _ _
      | exact LeO.none _
      | refine LeO.ite ?_ ?_
      | refine LeO.bind ?_ (fun _ => ?_)
theorem figureheadref25_Line.mono : ∀ a0 a1 a2 a3 a4 a5 a6 a7 a8 a9 a10 a11 a12 a13 a14 a15 k, LeO (figureheadref25_Line.f k a0 a1 a2 a3 a4 a5 a6 a7 a8 a9 a10 a11 a12 a13 a14 a15) (figureheadref25_Line.f (k + 1) a0 a1 a2 a3 a4 a5 a6 a7 a8 a9 a10 a11 a12 a13 a14 a15) := by
  intro a0 a1 a2 a3 a4 a5 a6 a7 a8 a9 a10 a11 a12 a13 a14 a15 k
  have ih0 := figureheadref25_Line.mono_l k
  unfold figureheadref25_Line.f
  repeat' first
      | (with_reducible exact ih0 _ _ _ _)
      | (with_reducible exact figureheadref25_Dec.mono _ _)
      | (with_reducible exact LeO.refl _)
      | (with_reducible exact LeO.none _)
      | (with_reducible refine LeO.ite ?_ ?_)
      | (with_reducible refine LeO.bind ?_ (fun _ => ?_))
      | exact ih0 _ _ _ _
      | exact figureheadref25_Dec.mono _ _
      | exact LeO.none _
      | refine LeO.ite ?_ ?_
      | refine LeO.bind ?_ (fun _ => ?_)
def figureheadref25_Line.T1 : Bool × List (List Nat × List Nat) := (true, [([], []), ([0], [0]), ([1], [1]), ([2], [2]), ([], []), ([4], [4]), ([5, 2], [5]), ([3, 6], [3, 6]), ([7], [7]), ([], []), ([9], [9]), ([10], [10]), ([11], [11]), ([12, 6], [12]), ([8, 13], [8, 13]), ([14], [14]), ([], []), ([16], [16]), ([17], [17]), ([18, 13], [18]), ([15, 19], [15, 19]), ([20], [20]), ([], []), ([22], [22]), ([23], [23]), ([24, 19], [24]), ([21, 25], [21, 25]), ([26, 25, 0, 1, 2, 3, 4, 5, 6, 7, 8, 9, 10, 11, 12, 13, 14, 15, 16, 17, 18, 19, 20, 21, 22, 23, 24, 25, 26], [26])])
def figureheadref25_Line.B1 : List Nat := [0, 1, 3, 7, 0, 16, 55, 127, 255, 0, 512, 1536, 3584, 7799, 16383, 32767, 0, 65536, 196608, 474743, 1048575, 2097151, 0, 4194304, 12582912, 30359159, 67108863, 134217727]
theorem figureheadref25_Line.tab1 : rtab .any (opsOf Tryd.f23 1) = figureheadref25_Line.T1 := by kernel_rfl
theorem figureheadref25_Line.bits1 : waitsOk figureheadref25_Line.T1.2 figureheadref25_Line.B1 = true := by kernel_rfl
set_option maxHeartbeats 8000000 in
set_option maxRecDepth 100000 in
theorem figureheadref25_Line.calls (k : Nat) (a0_0 : Int) (a0_1 : Int) (a0_2 : ByteArray) (a0_3 : Int) (a0_4 : ByteArray) (a0_5 : ByteArray) (a0_6 : ByteArray) (a0_7 : ByteArray) (a0_8 : ByteArray) (a0_9 : ByteArray) (a0_10 : ByteArray) (a0_11 : ByteArray) (a0_12 : Bool) (a0_13 : ByteArray) (a0_14 : Int) (a0_15 : ByteArray) (r : ByteArray) (w : World) (h : figureheadref25_Line.f k a0_0 a0_1 a0_2 a0_3 a0_4 a0_5 a0_6 a0_7 a0_8 a0_9 a0_10 a0_11 a0_12 a0_13 a0_14 a0_15 = some r) :
    Calls Tryd.prog 23 #[.agg #[.int .i64 a0_0, .int .i64 a0_1, .string a0_2, .int .i32 a0_3, .string a0_4, .string a0_5, .string a0_6, .string a0_7, .string a0_8, .string a0_9, .string a0_10, .string a0_11, .bool a0_12, .string a0_13, .int .i64 a0_14, .string a0_15]] w fun e w' => e = .returned (.string r) ∧ Below w.heap.size w w' := by
  have hu29 := Tryd.underlying29
  have HB := Aside0.mk (Below.refl w.heap.size w)
  have H : ((figureheadref25_Dec.f k a0_0).bind fun t197 => (if t197.size + 1 ≤ 9223372036854775807 then ((figureheadref25_Dec.f k a0_1).bind fun t198 => (if (t197 ++ (⟨#[32]⟩ : ByteArray)).size + t198.size ≤ 9223372036854775807 then (if ((t197 ++ (⟨#[32]⟩ : ByteArray)) ++ t198).size + 1 ≤ 9223372036854775807 then ((figureheadref25_Dec.f k (wrap64 (a0_3))).bind fun t199 => (if (((t197 ++ (⟨#[32]⟩ : ByteArray)) ++ t198) ++ (⟨#[32]⟩ : ByteArray)).size + t199.size ≤ 9223372036854775807 then (if ((((t197 ++ (⟨#[32]⟩ : ByteArray)) ++ t198) ++ (⟨#[32]⟩ : ByteArray)) ++ t199).size + 1 ≤ 9223372036854775807 then ((figureheadref25_Dec.f k a0_14).bind fun t200 => (if (((((t197 ++ (⟨#[32]⟩ : ByteArray)) ++ t198) ++ (⟨#[32]⟩ : ByteArray)) ++ t199) ++ (⟨#[32]⟩ : ByteArray)).size + t200.size ≤ 9223372036854775807 then (if ((((((t197 ++ (⟨#[32]⟩ : ByteArray)) ++ t198) ++ (⟨#[32]⟩ : ByteArray)) ++ t199) ++ (⟨#[32]⟩ : ByteArray)) ++ t200).size + 1 ≤ 9223372036854775807 then ((figureheadref25_bit.f a0_12).bind fun t201 => (if (((((((t197 ++ (⟨#[32]⟩ : ByteArray)) ++ t198) ++ (⟨#[32]⟩ : ByteArray)) ++ t199) ++ (⟨#[32]⟩ : ByteArray)) ++ t200) ++ (⟨#[32]⟩ : ByteArray)).size + t201.size ≤ 9223372036854775807 then ((some (([a0_2, a0_15, a0_13, a0_4, a0_5, a0_6, a0_7, a0_8, a0_9, a0_10, a0_11] : List ByteArray) : List ByteArray)).bind fun y202 => (figureheadref25_Line.l0 k ((((((((t197 ++ (⟨#[32]⟩ : ByteArray)) ++ t198) ++ (⟨#[32]⟩ : ByteArray)) ++ t199) ++ (⟨#[32]⟩ : ByteArray)) ++ t200) ++ (⟨#[32]⟩ : ByteArray)) ++ t201) y202 (y202.length : Int) 0)) else (none))) else (none)) else (none))) else (none)) else (none))) else (none)) else (none))) else (none))) = some r := h
  clear h
  replace H := Option.bind_eq_some_iff.mp H
  obtain ⟨t197, A20, H⟩ := H
  replace H : (if t197.size + 1 ≤ 9223372036854775807 then ((figureheadref25_Dec.f k a0_1).bind fun t198 => (if (t197 ++ (⟨#[32]⟩ : ByteArray)).size + t198.size ≤ 9223372036854775807 then (if ((t197 ++ (⟨#[32]⟩ : ByteArray)) ++ t198).size + 1 ≤ 9223372036854775807 then ((figureheadref25_Dec.f k (wrap64 (a0_3))).bind fun t199 => (if (((t197 ++ (⟨#[32]⟩ : ByteArray)) ++ t198) ++ (⟨#[32]⟩ : ByteArray)).size + t199.size ≤ 9223372036854775807 then (if ((((t197 ++ (⟨#[32]⟩ : ByteArray)) ++ t198) ++ (⟨#[32]⟩ : ByteArray)) ++ t199).size + 1 ≤ 9223372036854775807 then ((figureheadref25_Dec.f k a0_14).bind fun t200 => (if (((((t197 ++ (⟨#[32]⟩ : ByteArray)) ++ t198) ++ (⟨#[32]⟩ : ByteArray)) ++ t199) ++ (⟨#[32]⟩ : ByteArray)).size + t200.size ≤ 9223372036854775807 then (if ((((((t197 ++ (⟨#[32]⟩ : ByteArray)) ++ t198) ++ (⟨#[32]⟩ : ByteArray)) ++ t199) ++ (⟨#[32]⟩ : ByteArray)) ++ t200).size + 1 ≤ 9223372036854775807 then ((figureheadref25_bit.f a0_12).bind fun t201 => (if (((((((t197 ++ (⟨#[32]⟩ : ByteArray)) ++ t198) ++ (⟨#[32]⟩ : ByteArray)) ++ t199) ++ (⟨#[32]⟩ : ByteArray)) ++ t200) ++ (⟨#[32]⟩ : ByteArray)).size + t201.size ≤ 9223372036854775807 then ((some (([a0_2, a0_15, a0_13, a0_4, a0_5, a0_6, a0_7, a0_8, a0_9, a0_10, a0_11] : List ByteArray) : List ByteArray)).bind fun y202 => (figureheadref25_Line.l0 k ((((((((t197 ++ (⟨#[32]⟩ : ByteArray)) ++ t198) ++ (⟨#[32]⟩ : ByteArray)) ++ t199) ++ (⟨#[32]⟩ : ByteArray)) ++ t200) ++ (⟨#[32]⟩ : ByteArray)) ++ t201) y202 (y202.length : Int) 0)) else (none))) else (none)) else (none))) else (none)) else (none))) else (none)) else (none))) else (none)) = some r := H
  have A2 := Aside0.mk A20
  clear A20
  by_cases c3 : t197.size + 1 ≤ 9223372036854775807
  · rw [if_pos c3] at H
    have c3b0 := eq_true c3
    have c3b1 : decide (t197.size + 1 ≤ 9223372036854775807) = true := decide_eq_true c3
    try have c3b2 : (9223372036854775807 < t197.size + 1) = False := eq_false (Nat.not_lt.2 c3)
    replace H := Option.bind_eq_some_iff.mp H
    obtain ⟨t198, A40, H⟩ := H
    replace H : (if (t197 ++ (⟨#[32]⟩ : ByteArray)).size + t198.size ≤ 9223372036854775807 then (if ((t197 ++ (⟨#[32]⟩ : ByteArray)) ++ t198).size + 1 ≤ 9223372036854775807 then ((figureheadref25_Dec.f k (wrap64 (a0_3))).bind fun t199 => (if (((t197 ++ (⟨#[32]⟩ : ByteArray)) ++ t198) ++ (⟨#[32]⟩ : ByteArray)).size + t199.size ≤ 9223372036854775807 then (if ((((t197 ++ (⟨#[32]⟩ : ByteArray)) ++ t198) ++ (⟨#[32]⟩ : ByteArray)) ++ t199).size + 1 ≤ 9223372036854775807 then ((figureheadref25_Dec.f k a0_14).bind fun t200 => (if (((((t197 ++ (⟨#[32]⟩ : ByteArray)) ++ t198) ++ (⟨#[32]⟩ : ByteArray)) ++ t199) ++ (⟨#[32]⟩ : ByteArray)).size + t200.size ≤ 9223372036854775807 then (if ((((((t197 ++ (⟨#[32]⟩ : ByteArray)) ++ t198) ++ (⟨#[32]⟩ : ByteArray)) ++ t199) ++ (⟨#[32]⟩ : ByteArray)) ++ t200).size + 1 ≤ 9223372036854775807 then ((figureheadref25_bit.f a0_12).bind fun t201 => (if (((((((t197 ++ (⟨#[32]⟩ : ByteArray)) ++ t198) ++ (⟨#[32]⟩ : ByteArray)) ++ t199) ++ (⟨#[32]⟩ : ByteArray)) ++ t200) ++ (⟨#[32]⟩ : ByteArray)).size + t201.size ≤ 9223372036854775807 then ((some (([a0_2, a0_15, a0_13, a0_4, a0_5, a0_6, a0_7, a0_8, a0_9, a0_10, a0_11] : List ByteArray) : List ByteArray)).bind fun y202 => (figureheadref25_Line.l0 k ((((((((t197 ++ (⟨#[32]⟩ : ByteArray)) ++ t198) ++ (⟨#[32]⟩ : ByteArray)) ++ t199) ++ (⟨#[32]⟩ : ByteArray)) ++ t200) ++ (⟨#[32]⟩ : ByteArray)) ++ t201) y202 (y202.length : Int) 0)) else (none))) else (none)) else (none))) else (none)) else (none))) else (none)) else (none)) = some r := H
    have A4 := Aside0.mk A40
    clear A40
    by_cases c5 : (t197 ++ (⟨#[32]⟩ : ByteArray)).size + t198.size ≤ 9223372036854775807
    · rw [if_pos c5] at H
      have c5b0 := eq_true c5
      have c5b1 : decide ((t197 ++ (⟨#[32]⟩ : ByteArray)).size + t198.size ≤ 9223372036854775807) = true := decide_eq_true c5
      try have c5b2 : (9223372036854775807 < (t197 ++ (⟨#[32]⟩ : ByteArray)).size + t198.size) = False := eq_false (Nat.not_lt.2 c5)
      (try (have c5b3 : (9223372036854775807 < t197.size + 1 + t198.size) = False := eq_false (by have h_ := c5; have k0_ : (⟨#[32]⟩ : ByteArray).size = 1 := rfl; simp only [ByteArray.size_append] at h_; omega)))
      (try (have c5b4 : (t197.size + 1 + t198.size ≤ 9223372036854775807) = True := eq_true (by have h_ := c5; have k0_ : (⟨#[32]⟩ : ByteArray).size = 1 := rfl; simp only [ByteArray.size_append] at h_; omega)))
      by_cases c6 : ((t197 ++ (⟨#[32]⟩ : ByteArray)) ++ t198).size + 1 ≤ 9223372036854775807
      · rw [if_pos c6] at H
        have c6b0 := eq_true c6
        have c6b1 : decide (((t197 ++ (⟨#[32]⟩ : ByteArray)) ++ t198).size + 1 ≤ 9223372036854775807) = true := decide_eq_true c6
        try have c6b2 : (9223372036854775807 < ((t197 ++ (⟨#[32]⟩ : ByteArray)) ++ t198).size + 1) = False := eq_false (Nat.not_lt.2 c6)
        (try (have c6b3 : (9223372036854775807 < t197.size + 1 + t198.size + 1) = False := eq_false (by have h_ := c6; have k0_ : (⟨#[32]⟩ : ByteArray).size = 1 := rfl; simp only [ByteArray.size_append] at h_; omega)))
        (try (have c6b4 : (t197.size + 1 + t198.size + 1 ≤ 9223372036854775807) = True := eq_true (by have h_ := c6; have k0_ : (⟨#[32]⟩ : ByteArray).size = 1 := rfl; simp only [ByteArray.size_append] at h_; omega)))
        replace H := Option.bind_eq_some_iff.mp H
        obtain ⟨t199, A70, H⟩ := H
        replace H : (if (((t197 ++ (⟨#[32]⟩ : ByteArray)) ++ t198) ++ (⟨#[32]⟩ : ByteArray)).size + t199.size ≤ 9223372036854775807 then (if ((((t197 ++ (⟨#[32]⟩ : ByteArray)) ++ t198) ++ (⟨#[32]⟩ : ByteArray)) ++ t199).size + 1 ≤ 9223372036854775807 then ((figureheadref25_Dec.f k a0_14).bind fun t200 => (if (((((t197 ++ (⟨#[32]⟩ : ByteArray)) ++ t198) ++ (⟨#[32]⟩ : ByteArray)) ++ t199) ++ (⟨#[32]⟩ : ByteArray)).size + t200.size ≤ 9223372036854775807 then (if ((((((t197 ++ (⟨#[32]⟩ : ByteArray)) ++ t198) ++ (⟨#[32]⟩ : ByteArray)) ++ t199) ++ (⟨#[32]⟩ : ByteArray)) ++ t200).size + 1 ≤ 9223372036854775807 then ((figureheadref25_bit.f a0_12).bind fun t201 => (if (((((((t197 ++ (⟨#[32]⟩ : ByteArray)) ++ t198) ++ (⟨#[32]⟩ : ByteArray)) ++ t199) ++ (⟨#[32]⟩ : ByteArray)) ++ t200) ++ (⟨#[32]⟩ : ByteArray)).size + t201.size ≤ 9223372036854775807 then ((some (([a0_2, a0_15, a0_13, a0_4, a0_5, a0_6, a0_7, a0_8, a0_9, a0_10, a0_11] : List ByteArray) : List ByteArray)).bind fun y202 => (figureheadref25_Line.l0 k ((((((((t197 ++ (⟨#[32]⟩ : ByteArray)) ++ t198) ++ (⟨#[32]⟩ : ByteArray)) ++ t199) ++ (⟨#[32]⟩ : ByteArray)) ++ t200) ++ (⟨#[32]⟩ : ByteArray)) ++ t201) y202 (y202.length : Int) 0)) else (none))) else (none)) else (none))) else (none)) else (none)) = some r := H
        have A7 := Aside0.mk A70
        clear A70
        by_cases c8 : (((t197 ++ (⟨#[32]⟩ : ByteArray)) ++ t198) ++ (⟨#[32]⟩ : ByteArray)).size + t199.size ≤ 9223372036854775807
        · rw [if_pos c8] at H
          have c8b0 := eq_true c8
          have c8b1 : decide ((((t197 ++ (⟨#[32]⟩ : ByteArray)) ++ t198) ++ (⟨#[32]⟩ : ByteArray)).size + t199.size ≤ 9223372036854775807) = true := decide_eq_true c8
          try have c8b2 : (9223372036854775807 < (((t197 ++ (⟨#[32]⟩ : ByteArray)) ++ t198) ++ (⟨#[32]⟩ : ByteArray)).size + t199.size) = False := eq_false (Nat.not_lt.2 c8)
          (try (have c8b3 : (9223372036854775807 < t197.size + 1 + t198.size + 1 + t199.size) = False := eq_false (by have h_ := c8; have k0_ : (⟨#[32]⟩ : ByteArray).size = 1 := rfl; have k1_ : (⟨#[32]⟩ : ByteArray).size = 1 := rfl; simp only [ByteArray.size_append] at h_; omega)))
          (try (have c8b4 : (t197.size + 1 + t198.size + 1 + t199.size ≤ 9223372036854775807) = True := eq_true (by have h_ := c8; have k0_ : (⟨#[32]⟩ : ByteArray).size = 1 := rfl; have k1_ : (⟨#[32]⟩ : ByteArray).size = 1 := rfl; simp only [ByteArray.size_append] at h_; omega)))
          by_cases c9 : ((((t197 ++ (⟨#[32]⟩ : ByteArray)) ++ t198) ++ (⟨#[32]⟩ : ByteArray)) ++ t199).size + 1 ≤ 9223372036854775807
          · rw [if_pos c9] at H
            have c9b0 := eq_true c9
            have c9b1 : decide (((((t197 ++ (⟨#[32]⟩ : ByteArray)) ++ t198) ++ (⟨#[32]⟩ : ByteArray)) ++ t199).size + 1 ≤ 9223372036854775807) = true := decide_eq_true c9
            try have c9b2 : (9223372036854775807 < ((((t197 ++ (⟨#[32]⟩ : ByteArray)) ++ t198) ++ (⟨#[32]⟩ : ByteArray)) ++ t199).size + 1) = False := eq_false (Nat.not_lt.2 c9)
            (try (have c9b3 : (9223372036854775807 < t197.size + 1 + t198.size + 1 + t199.size + 1) = False := eq_false (by have h_ := c9; have k0_ : (⟨#[32]⟩ : ByteArray).size = 1 := rfl; have k1_ : (⟨#[32]⟩ : ByteArray).size = 1 := rfl; simp only [ByteArray.size_append] at h_; omega)))
            (try (have c9b4 : (t197.size + 1 + t198.size + 1 + t199.size + 1 ≤ 9223372036854775807) = True := eq_true (by have h_ := c9; have k0_ : (⟨#[32]⟩ : ByteArray).size = 1 := rfl; have k1_ : (⟨#[32]⟩ : ByteArray).size = 1 := rfl; simp only [ByteArray.size_append] at h_; omega)))
            replace H := Option.bind_eq_some_iff.mp H
            obtain ⟨t200, A100, H⟩ := H
            replace H : (if (((((t197 ++ (⟨#[32]⟩ : ByteArray)) ++ t198) ++ (⟨#[32]⟩ : ByteArray)) ++ t199) ++ (⟨#[32]⟩ : ByteArray)).size + t200.size ≤ 9223372036854775807 then (if ((((((t197 ++ (⟨#[32]⟩ : ByteArray)) ++ t198) ++ (⟨#[32]⟩ : ByteArray)) ++ t199) ++ (⟨#[32]⟩ : ByteArray)) ++ t200).size + 1 ≤ 9223372036854775807 then ((figureheadref25_bit.f a0_12).bind fun t201 => (if (((((((t197 ++ (⟨#[32]⟩ : ByteArray)) ++ t198) ++ (⟨#[32]⟩ : ByteArray)) ++ t199) ++ (⟨#[32]⟩ : ByteArray)) ++ t200) ++ (⟨#[32]⟩ : ByteArray)).size + t201.size ≤ 9223372036854775807 then ((some (([a0_2, a0_15, a0_13, a0_4, a0_5, a0_6, a0_7, a0_8, a0_9, a0_10, a0_11] : List ByteArray) : List ByteArray)).bind fun y202 => (figureheadref25_Line.l0 k ((((((((t197 ++ (⟨#[32]⟩ : ByteArray)) ++ t198) ++ (⟨#[32]⟩ : ByteArray)) ++ t199) ++ (⟨#[32]⟩ : ByteArray)) ++ t200) ++ (⟨#[32]⟩ : ByteArray)) ++ t201) y202 (y202.length : Int) 0)) else (none))) else (none)) else (none)) = some r := H
            have A10 := Aside0.mk A100
            clear A100
            by_cases c11 : (((((t197 ++ (⟨#[32]⟩ : ByteArray)) ++ t198) ++ (⟨#[32]⟩ : ByteArray)) ++ t199) ++ (⟨#[32]⟩ : ByteArray)).size + t200.size ≤ 9223372036854775807
            · rw [if_pos c11] at H
              have c11b0 := eq_true c11
              have c11b1 : decide ((((((t197 ++ (⟨#[32]⟩ : ByteArray)) ++ t198) ++ (⟨#[32]⟩ : ByteArray)) ++ t199) ++ (⟨#[32]⟩ : ByteArray)).size + t200.size ≤ 9223372036854775807) = true := decide_eq_true c11
              try have c11b2 : (9223372036854775807 < (((((t197 ++ (⟨#[32]⟩ : ByteArray)) ++ t198) ++ (⟨#[32]⟩ : ByteArray)) ++ t199) ++ (⟨#[32]⟩ : ByteArray)).size + t200.size) = False := eq_false (Nat.not_lt.2 c11)
              (try (have c11b3 : (9223372036854775807 < t197.size + 1 + t198.size + 1 + t199.size + 1 + t200.size) = False := eq_false (by have h_ := c11; have k0_ : (⟨#[32]⟩ : ByteArray).size = 1 := rfl; have k1_ : (⟨#[32]⟩ : ByteArray).size = 1 := rfl; have k2_ : (⟨#[32]⟩ : ByteArray).size = 1 := rfl; simp only [ByteArray.size_append] at h_; omega)))
              (try (have c11b4 : (t197.size + 1 + t198.size + 1 + t199.size + 1 + t200.size ≤ 9223372036854775807) = True := eq_true (by have h_ := c11; have k0_ : (⟨#[32]⟩ : ByteArray).size = 1 := rfl; have k1_ : (⟨#[32]⟩ : ByteArray).size = 1 := rfl; have k2_ : (⟨#[32]⟩ : ByteArray).size = 1 := rfl; simp only [ByteArray.size_append] at h_; omega)))
              by_cases c12 : ((((((t197 ++ (⟨#[32]⟩ : ByteArray)) ++ t198) ++ (⟨#[32]⟩ : ByteArray)) ++ t199) ++ (⟨#[32]⟩ : ByteArray)) ++ t200).size + 1 ≤ 9223372036854775807
              · rw [if_pos c12] at H
                have c12b0 := eq_true c12
                have c12b1 : decide (((((((t197 ++ (⟨#[32]⟩ : ByteArray)) ++ t198) ++ (⟨#[32]⟩ : ByteArray)) ++ t199) ++ (⟨#[32]⟩ : ByteArray)) ++ t200).size + 1 ≤ 9223372036854775807) = true := decide_eq_true c12
                try have c12b2 : (9223372036854775807 < ((((((t197 ++ (⟨#[32]⟩ : ByteArray)) ++ t198) ++ (⟨#[32]⟩ : ByteArray)) ++ t199) ++ (⟨#[32]⟩ : ByteArray)) ++ t200).size + 1) = False := eq_false (Nat.not_lt.2 c12)
                (try (have c12b3 : (9223372036854775807 < t197.size + 1 + t198.size + 1 + t199.size + 1 + t200.size + 1) = False := eq_false (by have h_ := c12; have k0_ : (⟨#[32]⟩ : ByteArray).size = 1 := rfl; have k1_ : (⟨#[32]⟩ : ByteArray).size = 1 := rfl; have k2_ : (⟨#[32]⟩ : ByteArray).size = 1 := rfl; simp only [ByteArray.size_append] at h_; omega)))
                (try (have c12b4 : (t197.size + 1 + t198.size + 1 + t199.size + 1 + t200.size + 1 ≤ 9223372036854775807) = True := eq_true (by have h_ := c12; have k0_ : (⟨#[32]⟩ : ByteArray).size = 1 := rfl; have k1_ : (⟨#[32]⟩ : ByteArray).size = 1 := rfl; have k2_ : (⟨#[32]⟩ : ByteArray).size = 1 := rfl; simp only [ByteArray.size_append] at h_; omega)))
                replace H := Option.bind_eq_some_iff.mp H
                obtain ⟨t201, A130, H⟩ := H
                replace H : (if (((((((t197 ++ (⟨#[32]⟩ : ByteArray)) ++ t198) ++ (⟨#[32]⟩ : ByteArray)) ++ t199) ++ (⟨#[32]⟩ : ByteArray)) ++ t200) ++ (⟨#[32]⟩ : ByteArray)).size + t201.size ≤ 9223372036854775807 then ((some (([a0_2, a0_15, a0_13, a0_4, a0_5, a0_6, a0_7, a0_8, a0_9, a0_10, a0_11] : List ByteArray) : List ByteArray)).bind fun y202 => (figureheadref25_Line.l0 k ((((((((t197 ++ (⟨#[32]⟩ : ByteArray)) ++ t198) ++ (⟨#[32]⟩ : ByteArray)) ++ t199) ++ (⟨#[32]⟩ : ByteArray)) ++ t200) ++ (⟨#[32]⟩ : ByteArray)) ++ t201) y202 (y202.length : Int) 0)) else (none)) = some r := H
                have A13 := Aside0.mk A130
                clear A130
                by_cases c14 : (((((((t197 ++ (⟨#[32]⟩ : ByteArray)) ++ t198) ++ (⟨#[32]⟩ : ByteArray)) ++ t199) ++ (⟨#[32]⟩ : ByteArray)) ++ t200) ++ (⟨#[32]⟩ : ByteArray)).size + t201.size ≤ 9223372036854775807
                · rw [if_pos c14] at H
                  have c14b0 := eq_true c14
                  have c14b1 : decide ((((((((t197 ++ (⟨#[32]⟩ : ByteArray)) ++ t198) ++ (⟨#[32]⟩ : ByteArray)) ++ t199) ++ (⟨#[32]⟩ : ByteArray)) ++ t200) ++ (⟨#[32]⟩ : ByteArray)).size + t201.size ≤ 9223372036854775807) = true := decide_eq_true c14
                  try have c14b2 : (9223372036854775807 < (((((((t197 ++ (⟨#[32]⟩ : ByteArray)) ++ t198) ++ (⟨#[32]⟩ : ByteArray)) ++ t199) ++ (⟨#[32]⟩ : ByteArray)) ++ t200) ++ (⟨#[32]⟩ : ByteArray)).size + t201.size) = False := eq_false (Nat.not_lt.2 c14)
                  (try (have c14b3 : (9223372036854775807 < t197.size + 1 + t198.size + 1 + t199.size + 1 + t200.size + 1 + t201.size) = False := eq_false (by have h_ := c14; have k0_ : (⟨#[32]⟩ : ByteArray).size = 1 := rfl; have k1_ : (⟨#[32]⟩ : ByteArray).size = 1 := rfl; have k2_ : (⟨#[32]⟩ : ByteArray).size = 1 := rfl; have k3_ : (⟨#[32]⟩ : ByteArray).size = 1 := rfl; simp only [ByteArray.size_append] at h_; omega)))
                  (try (have c14b4 : (t197.size + 1 + t198.size + 1 + t199.size + 1 + t200.size + 1 + t201.size ≤ 9223372036854775807) = True := eq_true (by have h_ := c14; have k0_ : (⟨#[32]⟩ : ByteArray).size = 1 := rfl; have k1_ : (⟨#[32]⟩ : ByteArray).size = 1 := rfl; have k2_ : (⟨#[32]⟩ : ByteArray).size = 1 := rfl; have k3_ : (⟨#[32]⟩ : ByteArray).size = 1 := rfl; simp only [ByteArray.size_append] at h_; omega)))
                  obtain ⟨y202, hy202⟩ : ∃ y_ : List ByteArray, y_ = (([a0_2, a0_15, a0_13, a0_4, a0_5, a0_6, a0_7, a0_8, a0_9, a0_10, a0_11] : List ByteArray)) := ⟨_, rfl⟩
                  replace H : (figureheadref25_Line.l0 k ((((((((t197 ++ (⟨#[32]⟩ : ByteArray)) ++ t198) ++ (⟨#[32]⟩ : ByteArray)) ++ t199) ++ (⟨#[32]⟩ : ByteArray)) ++ t200) ++ (⟨#[32]⟩ : ByteArray)) ++ t201) y202 (y202.length : Int) 0) = some r := by first | (rw [hy202]; with_reducible exact H) | (have H2_ := (Option.bind_some _ _).symm.trans H; rw [hy202]; with_reducible exact H2_) | (have H2_ := (Option.bind_some _ _).symm.trans H; with_reducible exact H2_) | with_reducible exact H | (rw [hy202]; exact H) | exact H
                  have Ny202 := Aside0.mk hy202
                  clear hy202
                  have H' := Aside0.mk H
                  clear H
                  go_enter Tryd.func23, Tryd.ntmps23
                  try go_wp2_with (first | ((with_reducible refine gate_dst (N := 1) rfl ?_); refine box_event ?hg (N := 1) ?hd (cs := #[.int .i64 a0_0, .int .i64 a0_1, .string a0_2, .int .i32 a0_3, .string a0_4, .string a0_5, .string a0_6, .string a0_7, .string a0_8, .string a0_9, .string a0_10, .string a0_11, .bool a0_12, .string a0_13, .int .i64 a0_14, .string a0_15]) (t := 29) ?hr ?_; (case hd => rfl); (case hg => rfl); (case hr => first | (go_simp; done) | (go_simp; rfl)); intro gb196 hg w15 hbox hb; have n0_ := Aside0.mk (below_step (by repeat (first | (with_reducible first | exact HB.out | apply below_alloc | apply pw_below_drewN | apply below_drew1) | exact HB.out)) hb); have n1_ := Aside0.mk (hbox); have n2_ := Aside0.mk ((by rw [hg]; exact (below_size (by repeat (first | (with_reducible first | exact HB.out | apply below_alloc | apply pw_below_drewN | apply below_drew1) | exact HB.out))) : w.heap.size ≤ gb196)); have n3_ := Aside0.mk ((by rw [hg]; exact (below_size (by repeat (first | (with_reducible first | exact HB.out | apply below_alloc | apply pw_below_drewN | apply below_drew1) | exact HB.out))) : w.heap.size ≤ gb196)); clear HB; have HB := n0_; have BK196 := n1_; have GW196 := n2_; have GE196 := n3_; clear n0_ n1_ n2_ n3_; clear hb hbox hg))
                  have n0_ := Aside0.mk (blk_drew BK196.out)
                  have n1_ := Aside0.mk (below_drew1 HB.out)
                  clear BK196
                  clear HB
                  have BK196 := n0_
                  have HB := n1_
                  clear n0_ n1_
                  refine start_ (n := 28) (S := fun w' => w'.cell? ⟨gb196, 0, none⟩ = some (.int .i64 a0_0) ∧ w'.cell? ⟨gb196, 1, none⟩ = some (.int .i64 a0_1) ∧ w'.cell? ⟨gb196, 2, none⟩ = some (.string a0_2) ∧ w'.cell? ⟨gb196, 3, none⟩ = some (.int .i32 a0_3) ∧ w'.cell? ⟨gb196, 4, none⟩ = some (.string a0_4) ∧ w'.cell? ⟨gb196, 5, none⟩ = some (.string a0_5) ∧ w'.cell? ⟨gb196, 6, none⟩ = some (.string a0_6) ∧ w'.cell? ⟨gb196, 7, none⟩ = some (.string a0_7) ∧ w'.cell? ⟨gb196, 8, none⟩ = some (.string a0_8) ∧ w'.cell? ⟨gb196, 9, none⟩ = some (.string a0_9) ∧ w'.cell? ⟨gb196, 10, none⟩ = some (.string a0_10) ∧ w'.cell? ⟨gb196, 11, none⟩ = some (.string a0_11) ∧ w'.cell? ⟨gb196, 12, none⟩ = some (.bool a0_12) ∧ w'.cell? ⟨gb196, 13, none⟩ = some (.string a0_13) ∧ w'.cell? ⟨gb196, 14, none⟩ = some (.int .i64 a0_14) ∧ w'.cell? ⟨gb196, 15, none⟩ = some (.string a0_15)) (ds := []) #[false, false, false, false, false, false, false, false, false, false, false, false, false, false, false, false, false, false, false, false, false, false, false, false, false, false, false, false] (by kernel_rfl) rfl rfl ⟨(blk_cell BK196.out 0).trans rfl, (blk_cell BK196.out 1).trans rfl, (blk_cell BK196.out 2).trans rfl, (blk_cell BK196.out 3).trans rfl, (blk_cell BK196.out 4).trans rfl, (blk_cell BK196.out 5).trans rfl, (blk_cell BK196.out 6).trans rfl, (blk_cell BK196.out 7).trans rfl, (blk_cell BK196.out 8).trans rfl, (blk_cell BK196.out 9).trans rfl, (blk_cell BK196.out 10).trans rfl, (blk_cell BK196.out 11).trans rfl, (blk_cell BK196.out 12).trans rfl, (blk_cell BK196.out 13).trans rfl, (blk_cell BK196.out 14).trans rfl, (blk_cell BK196.out 15).trans rfl⟩ (fun hHeld => ?_); refine with_tabW figureheadref25_Line.tab1 figureheadref25_Line.bits1 (fun HT_ HW_ => ?_)
                  generalize w15.drew = w16 at BK196 HB hHeld ⊢
                  refine pure_ (i := 0) (N := some 6) (v := ?_) (a' := ?_) #[true, false, false, false, false, false, false, false, false, false, false, false, false, false, false, false, false, false, false, false, false, false, false, false, false, false, false, false] rfl rfl (any_of HT_.out (by kernel_rfl)) (fun _ _ _ h => h) (Or.inl ⟨by rfl, ?_⟩) ?_ ?_
                  rotate_left
                  · intro w'
                    go_simp
                    with_reducible rfl
                  rotate_left
                  · simp only [Act.put, List.setIfInBounds_toArray, List.set_cons_zero, List.set_cons_succ, i64_w, i32_w]
                    rfl
                  refine pure_ (i := 4) (N := some 10) (v := ?_) (a' := ?_) #[true, false, false, false, true, false, false, false, false, false, false, false, false, false, false, false, false, false, false, false, false, false, false, false, false, false, false, false] rfl rfl (any_of HT_.out (by kernel_rfl)) (fun _ _ _ h => h) (Or.inl ⟨by rfl, ?_⟩) ?_ ?_
                  rotate_left
                  · intro w'
                    go_simp
                    with_reducible rfl
                  rotate_left
                  · simp only [Act.put, List.setIfInBounds_toArray, List.set_cons_zero, List.set_cons_succ, i64_w, i32_w]
                    rfl
                  refine pure_ (i := 9) (N := some 15) (v := ?_) (a' := ?_) #[true, false, false, false, true, false, false, false, false, true, false, false, false, false, false, false, false, false, false, false, false, false, false, false, false, false, false, false] rfl rfl (any_of HT_.out (by kernel_rfl)) (fun _ _ _ h => h) (Or.inl ⟨by rfl, ?_⟩) ?_ ?_
                  rotate_left
                  · intro w'
                    go_simp
                    with_reducible rfl
                  rotate_left
                  · simp only [Act.put, List.setIfInBounds_toArray, List.set_cons_zero, List.set_cons_succ, i64_w, i32_w]
                    rfl
                  refine pure_ (i := 10) (N := some 16) (v := ?_) (a' := ?_) #[true, false, false, false, true, false, false, false, false, true, true, false, false, false, false, false, false, false, false, false, false, false, false, false, false, false, false, false] rfl rfl (any_of HT_.out (by kernel_rfl)) (fun _ _ _ h => h) (Or.inl ⟨by rfl, ?_⟩) ?_ ?_
                  rotate_left
                  · intro w'
                    go_simp
                    with_reducible rfl
                  rotate_left
                  · simp only [Act.put, List.setIfInBounds_toArray, List.set_cons_zero, List.set_cons_succ, i64_w, i32_w]
                    rfl
                  refine pure_ (i := 16) (N := some 22) (v := ?_) (a' := ?_) #[true, false, false, false, true, false, false, false, false, true, true, false, false, false, false, false, true, false, false, false, false, false, false, false, false, false, false, false] rfl rfl (any_of HT_.out (by kernel_rfl)) (fun _ _ _ h => h) (Or.inl ⟨by rfl, ?_⟩) ?_ ?_
                  rotate_left
                  · intro w'
                    go_simp
                    with_reducible rfl
                  rotate_left
                  · simp only [Act.put, List.setIfInBounds_toArray, List.set_cons_zero, List.set_cons_succ, i64_w, i32_w]
                    rfl
                  refine pure_ (i := 17) (N := some 23) (v := ?_) (a' := ?_) #[true, false, false, false, true, false, false, false, false, true, true, false, false, false, false, false, true, true, false, false, false, false, false, false, false, false, false, false] rfl rfl (any_of HT_.out (by kernel_rfl)) (fun _ _ _ h => h) (Or.inl ⟨by rfl, ?_⟩) ?_ ?_
                  rotate_left
                  · intro w'
                    go_simp
                    with_reducible rfl
                  rotate_left
                  · simp only [Act.put, List.setIfInBounds_toArray, List.set_cons_zero, List.set_cons_succ, i64_w, i32_w]
                    rfl
                  refine pure_ (i := 22) (N := some 28) (v := ?_) (a' := ?_) #[true, false, false, false, true, false, false, false, false, true, true, false, false, false, false, false, true, true, false, false, false, false, true, false, false, false, false, false] rfl rfl (any_of HT_.out (by kernel_rfl)) (fun _ _ _ h => h) (Or.inl ⟨by rfl, ?_⟩) ?_ ?_
                  rotate_left
                  · intro w'
                    go_simp
                    with_reducible rfl
                  rotate_left
                  · simp only [Act.put, List.setIfInBounds_toArray, List.set_cons_zero, List.set_cons_succ, i64_w, i32_w]
                    rfl
                  refine pure_ (i := 23) (N := some 29) (v := ?_) (a' := ?_) #[true, false, false, false, true, false, false, false, false, true, true, false, false, false, false, false, true, true, false, false, false, false, true, true, false, false, false, false] rfl rfl (any_of HT_.out (by kernel_rfl)) (fun _ _ _ h => h) (Or.inl ⟨by rfl, ?_⟩) ?_ ?_
                  rotate_left
                  · intro w'
                    go_simp
                    with_reducible rfl
                  rotate_left
                  · simp only [Act.put, List.setIfInBounds_toArray, List.set_cons_zero, List.set_cons_succ, i64_w, i32_w]
                    rfl
                  refine take_ (i := 1) (N := some 7) (v := ?_) (a' := ?_) #[true, true, false, false, true, false, false, false, false, true, true, false, false, false, false, false, true, true, false, false, false, false, true, true, false, false, false, false] rfl rfl (take_ofW HT_.out HW_.out (by kernel_rfl)) (fun _ _ _ h => h) (Or.inl ⟨by rfl, ?_⟩) hHeld ?_ ?_
                  rotate_left
                  · rintro w' ⟨s0, s1, s2, s3, s4, s5, s6, s7, s8, s9, s10, s11, s12, s13, s14, s15⟩
                    go_simp
                    with_reducible rfl
                  rotate_left
                  · simp only [Act.put, List.setIfInBounds_toArray, List.set_cons_zero, List.set_cons_succ, i64_w, i32_w]
                    rfl
                  refine take_ (i := 5) (N := some 11) (v := ?_) (a' := ?_) #[true, true, false, false, true, true, false, false, false, true, true, false, false, false, false, false, true, true, false, false, false, false, true, true, false, false, false, false] rfl rfl (take_ofW HT_.out HW_.out (by kernel_rfl)) (fun _ _ _ h => h) (Or.inl ⟨by rfl, ?_⟩) hHeld ?_ ?_
                  rotate_left
                  · rintro w' ⟨s0, s1, s2, s3, s4, s5, s6, s7, s8, s9, s10, s11, s12, s13, s14, s15⟩
                    go_simp
                    with_reducible rfl
                  rotate_left
                  · simp only [Act.put, List.setIfInBounds_toArray, List.set_cons_zero, List.set_cons_succ, i64_w, i32_w]
                    rfl
                  refine take_ (i := 11) (N := some 17) (v := ?_) (a' := ?_) #[true, true, false, false, true, true, false, false, false, true, true, true, false, false, false, false, true, true, false, false, false, false, true, true, false, false, false, false] rfl rfl (take_ofW HT_.out HW_.out (by kernel_rfl)) (fun _ _ _ h => h) (Or.inl ⟨by rfl, ?_⟩) hHeld ?_ ?_
                  rotate_left
                  · rintro w' ⟨s0, s1, s2, s3, s4, s5, s6, s7, s8, s9, s10, s11, s12, s13, s14, s15⟩
                    go_simp
                    with_reducible rfl
                  rotate_left
                  · simp only [Act.put, List.setIfInBounds_toArray, List.set_cons_zero, List.set_cons_succ, i64_w, i32_w]
                    rfl
                  refine pure_ (i := 12) (N := some 18) (v := ?_) (a' := ?_) #[true, true, false, false, true, true, false, false, false, true, true, true, true, false, false, false, true, true, false, false, false, false, true, true, false, false, false, false] rfl rfl (any_of HT_.out (by kernel_rfl)) (fun _ _ _ h => h) (Or.inl ⟨by rfl, ?_⟩) ?_ ?_
                  rotate_left
                  · intro w'
                    go_simp
                    with_reducible rfl
                  rotate_left
                  · simp only [Act.put, List.setIfInBounds_toArray, List.set_cons_zero, List.set_cons_succ, i64_w, i32_w]
                    rfl
                  refine take_ (i := 18) (N := some 24) (v := ?_) (a' := ?_) #[true, true, false, false, true, true, false, false, false, true, true, true, true, false, false, false, true, true, true, false, false, false, true, true, false, false, false, false] rfl rfl (take_ofW HT_.out HW_.out (by kernel_rfl)) (fun _ _ _ h => h) (Or.inl ⟨by rfl, ?_⟩) hHeld ?_ ?_
                  rotate_left
                  · rintro w' ⟨s0, s1, s2, s3, s4, s5, s6, s7, s8, s9, s10, s11, s12, s13, s14, s15⟩
                    go_simp
                    with_reducible rfl
                  rotate_left
                  · simp only [Act.put, List.setIfInBounds_toArray, List.set_cons_zero, List.set_cons_succ, i64_w, i32_w]
                    rfl
                  refine take_ (i := 24) (N := some 30) (v := ?_) (a' := ?_) #[true, true, false, false, true, true, false, false, false, true, true, true, true, false, false, false, true, true, true, false, false, false, true, true, true, false, false, false] rfl rfl (take_ofW HT_.out HW_.out (by kernel_rfl)) (fun _ _ _ h => h) (Or.inl ⟨by rfl, ?_⟩) hHeld ?_ ?_
                  rotate_left
                  · rintro w' ⟨s0, s1, s2, s3, s4, s5, s6, s7, s8, s9, s10, s11, s12, s13, s14, s15⟩
                    go_simp
                    with_reducible rfl
                  rotate_left
                  · simp only [Act.put, List.setIfInBounds_toArray, List.set_cons_zero, List.set_cons_succ, i64_w, i32_w]
                    rfl
                  refine one_ (i := 2) (N := some 8) #[true, true, true, false, true, true, false, false, false, true, true, true, true, false, false, false, true, true, true, false, false, false, true, true, true, false, false, false] rfl rfl (one_of HT_.out (by kernel_rfl)) (by decide) (fun K hK => ?_)
                  refine goes_ Tryd.func33 (by kernel_rfl) rfl #[.int .i64 a0_0] (by rfl) rfl rfl (by (try simp only [List.map_toArray, List.map_cons, List.map_nil]); first | done | rfl | (simp only [List.length_drop, List.length_take]; rfl)) ?_
                  with_reducible refine (figureheadref25_Dec.calls k a0_0 t197 _ A2.out).mono ?_
                  rintro e w17 ⟨rfl, hb⟩
                  refine ⟨_, rfl, ?_⟩
                  have n0_ := Aside0.mk (blk_below (g := gb196) (o := .cells #[.int .i64 a0_0, .int .i64 a0_1, .string a0_2, .int .i32 a0_3, .string a0_4, .string a0_5, .string a0_6, .string a0_7, .string a0_8, .string a0_9, .string a0_10, .string a0_11, .bool a0_12, .string a0_13, .int .i64 a0_14, .string a0_15] 29 (0, 0)) (by (with_reducible repeat (first | refine blk_drewN ?_ _ | refine blk_drew ?_ | refine blk_alloc ?_ _)); exact BK196.out) hb)
                  have n1_ := Aside0.mk (below_step (by repeat (first | (with_reducible first | exact HB.out | apply below_alloc | apply pw_below_drewN | apply below_drew1 | refine below_set ?_ GE196.out) | exact HB.out)) hb)
                  clear BK196
                  clear HB
                  have BK196 := n0_
                  have HB := n1_
                  clear n0_ n1_
                  (try clear hb)
                  (try clear hb2)
                  (try clear hk)
                  (try clear hi)
                  refine hK.out _ _ ⟨(blk_cell BK196.out 0).trans rfl, (blk_cell BK196.out 1).trans rfl, (blk_cell BK196.out 2).trans rfl, (blk_cell BK196.out 3).trans rfl, (blk_cell BK196.out 4).trans rfl, (blk_cell BK196.out 5).trans rfl, (blk_cell BK196.out 6).trans rfl, (blk_cell BK196.out 7).trans rfl, (blk_cell BK196.out 8).trans rfl, (blk_cell BK196.out 9).trans rfl, (blk_cell BK196.out 10).trans rfl, (blk_cell BK196.out 11).trans rfl, (blk_cell BK196.out 12).trans rfl, (blk_cell BK196.out 13).trans rfl, (blk_cell BK196.out 14).trans rfl, (blk_cell BK196.out 15).trans rfl⟩ (fun hHeld => ?_)
                  clear hK K
                  refine norm_ (a' := ?_) ?_ ?_
                  rotate_left
                  · show Act.put _ (some 8) _ = _
                    simp only [Act.put, List.setIfInBounds_toArray, List.set_cons_zero, List.set_cons_succ, i64_w, i32_w]
                    rfl
                  refine pure_ (i := 3) (N := some 9) (v := ?_) (a' := ?_) #[true, true, true, true, true, true, false, false, false, true, true, true, true, false, false, false, true, true, true, false, false, false, true, true, true, false, false, false] rfl rfl (any_of HT_.out (by kernel_rfl)) (fun _ _ _ h => h) (Or.inl ⟨by rfl, ?_⟩) ?_ ?_
                  rotate_left
                  · intro w'
                    go_simp
                    with_reducible rfl
                  rotate_left
                  · simp only [Act.put, List.setIfInBounds_toArray, List.set_cons_zero, List.set_cons_succ, i64_w, i32_w]
                    rfl
                  refine one_ (i := 6) (N := some 12) #[true, true, true, true, true, true, true, false, false, true, true, true, true, false, false, false, true, true, true, false, false, false, true, true, true, false, false, false] rfl rfl (one_of HT_.out (by kernel_rfl)) (by decide) (fun K hK => ?_)
                  refine goes_ Tryd.func33 (by kernel_rfl) rfl #[.int .i64 a0_1] (by rfl) rfl rfl (by (try simp only [List.map_toArray, List.map_cons, List.map_nil]); first | done | rfl | (simp only [List.length_drop, List.length_take]; rfl)) ?_
                  with_reducible refine (figureheadref25_Dec.calls k a0_1 t198 _ A4.out).mono ?_
                  rintro e w18 ⟨rfl, hb⟩
                  refine ⟨_, rfl, ?_⟩
                  have n0_ := Aside0.mk (blk_below (g := gb196) (o := .cells #[.int .i64 a0_0, .int .i64 a0_1, .string a0_2, .int .i32 a0_3, .string a0_4, .string a0_5, .string a0_6, .string a0_7, .string a0_8, .string a0_9, .string a0_10, .string a0_11, .bool a0_12, .string a0_13, .int .i64 a0_14, .string a0_15] 29 (0, 0)) (by (with_reducible repeat (first | refine blk_drewN ?_ _ | refine blk_drew ?_ | refine blk_alloc ?_ _)); exact BK196.out) hb)
                  have n1_ := Aside0.mk (below_step (by repeat (first | (with_reducible first | exact HB.out | apply below_alloc | apply pw_below_drewN | apply below_drew1 | refine below_set ?_ GE196.out) | exact HB.out)) hb)
                  clear BK196
                  clear HB
                  have BK196 := n0_
                  have HB := n1_
                  clear n0_ n1_
                  (try clear hb)
                  (try clear hb2)
                  (try clear hk)
                  (try clear hi)
                  refine hK.out _ _ ⟨(blk_cell BK196.out 0).trans rfl, (blk_cell BK196.out 1).trans rfl, (blk_cell BK196.out 2).trans rfl, (blk_cell BK196.out 3).trans rfl, (blk_cell BK196.out 4).trans rfl, (blk_cell BK196.out 5).trans rfl, (blk_cell BK196.out 6).trans rfl, (blk_cell BK196.out 7).trans rfl, (blk_cell BK196.out 8).trans rfl, (blk_cell BK196.out 9).trans rfl, (blk_cell BK196.out 10).trans rfl, (blk_cell BK196.out 11).trans rfl, (blk_cell BK196.out 12).trans rfl, (blk_cell BK196.out 13).trans rfl, (blk_cell BK196.out 14).trans rfl, (blk_cell BK196.out 15).trans rfl⟩ (fun hHeld => ?_)
                  clear hK K
                  refine norm_ (a' := ?_) ?_ ?_
                  rotate_left
                  · show Act.put _ (some 12) _ = _
                    simp only [Act.put, List.setIfInBounds_toArray, List.set_cons_zero, List.set_cons_succ, i64_w, i32_w]
                    rfl
                  refine pure_ (i := 7) (N := some 13) (v := ?_) (a' := ?_) #[true, true, true, true, true, true, true, true, false, true, true, true, true, false, false, false, true, true, true, false, false, false, true, true, true, false, false, false] rfl rfl (any_of HT_.out (by kernel_rfl)) (fun _ _ _ h => h) (Or.inl ⟨by rfl, ?_⟩) ?_ ?_
                  rotate_left
                  · intro w'
                    go_simp
                    with_reducible rfl
                  rotate_left
                  · simp only [Act.put, List.setIfInBounds_toArray, List.set_cons_zero, List.set_cons_succ, i64_w, i32_w]
                    rfl
                  refine pure_ (i := 8) (N := some 14) (v := ?_) (a' := ?_) #[true, true, true, true, true, true, true, true, true, true, true, true, true, false, false, false, true, true, true, false, false, false, true, true, true, false, false, false] rfl rfl (any_of HT_.out (by kernel_rfl)) (fun _ _ _ h => h) (Or.inl ⟨by rfl, ?_⟩) ?_ ?_
                  rotate_left
                  · intro w'
                    go_simp
                    with_reducible rfl
                  rotate_left
                  · simp only [Act.put, List.setIfInBounds_toArray, List.set_cons_zero, List.set_cons_succ, i64_w, i32_w]
                    rfl
                  refine one_ (i := 13) (N := some 19) #[true, true, true, true, true, true, true, true, true, true, true, true, true, true, false, false, true, true, true, false, false, false, true, true, true, false, false, false] rfl rfl (one_of HT_.out (by kernel_rfl)) (by decide) (fun K hK => ?_)
                  refine goes_ Tryd.func33 (by kernel_rfl) rfl #[.int .i64 (wrap64 (a0_3))] (by rfl) rfl rfl (by (try simp only [List.map_toArray, List.map_cons, List.map_nil]); first | done | rfl | (simp only [List.length_drop, List.length_take]; rfl)) ?_
                  with_reducible refine (figureheadref25_Dec.calls k (wrap64 (a0_3)) t199 _ A7.out).mono ?_
                  rintro e w19 ⟨rfl, hb⟩
                  refine ⟨_, rfl, ?_⟩
                  have n0_ := Aside0.mk (blk_below (g := gb196) (o := .cells #[.int .i64 a0_0, .int .i64 a0_1, .string a0_2, .int .i32 a0_3, .string a0_4, .string a0_5, .string a0_6, .string a0_7, .string a0_8, .string a0_9, .string a0_10, .string a0_11, .bool a0_12, .string a0_13, .int .i64 a0_14, .string a0_15] 29 (0, 0)) (by (with_reducible repeat (first | refine blk_drewN ?_ _ | refine blk_drew ?_ | refine blk_alloc ?_ _)); exact BK196.out) hb)
                  have n1_ := Aside0.mk (below_step (by repeat (first | (with_reducible first | exact HB.out | apply below_alloc | apply pw_below_drewN | apply below_drew1 | refine below_set ?_ GE196.out) | exact HB.out)) hb)
                  clear BK196
                  clear HB
                  have BK196 := n0_
                  have HB := n1_
                  clear n0_ n1_
                  (try clear hb)
                  (try clear hb2)
                  (try clear hk)
                  (try clear hi)
                  refine hK.out _ _ ⟨(blk_cell BK196.out 0).trans rfl, (blk_cell BK196.out 1).trans rfl, (blk_cell BK196.out 2).trans rfl, (blk_cell BK196.out 3).trans rfl, (blk_cell BK196.out 4).trans rfl, (blk_cell BK196.out 5).trans rfl, (blk_cell BK196.out 6).trans rfl, (blk_cell BK196.out 7).trans rfl, (blk_cell BK196.out 8).trans rfl, (blk_cell BK196.out 9).trans rfl, (blk_cell BK196.out 10).trans rfl, (blk_cell BK196.out 11).trans rfl, (blk_cell BK196.out 12).trans rfl, (blk_cell BK196.out 13).trans rfl, (blk_cell BK196.out 14).trans rfl, (blk_cell BK196.out 15).trans rfl⟩ (fun hHeld => ?_)
                  clear hK K
                  refine norm_ (a' := ?_) ?_ ?_
                  rotate_left
                  · show Act.put _ (some 19) _ = _
                    simp only [Act.put, List.setIfInBounds_toArray, List.set_cons_zero, List.set_cons_succ, i64_w, i32_w]
                    rfl
                  refine pure_ (i := 14) (N := some 20) (v := ?_) (a' := ?_) #[true, true, true, true, true, true, true, true, true, true, true, true, true, true, true, false, true, true, true, false, false, false, true, true, true, false, false, false] rfl rfl (any_of HT_.out (by kernel_rfl)) (fun _ _ _ h => h) (Or.inl ⟨by rfl, ?_⟩) ?_ ?_
                  rotate_left
                  · intro w'
                    go_simp
                    with_reducible rfl
                  rotate_left
                  · simp only [Act.put, List.setIfInBounds_toArray, List.set_cons_zero, List.set_cons_succ, i64_w, i32_w]
                    rfl
                  refine pure_ (i := 15) (N := some 21) (v := ?_) (a' := ?_) #[true, true, true, true, true, true, true, true, true, true, true, true, true, true, true, true, true, true, true, false, false, false, true, true, true, false, false, false] rfl rfl (any_of HT_.out (by kernel_rfl)) (fun _ _ _ h => h) (Or.inl ⟨by rfl, ?_⟩) ?_ ?_
                  rotate_left
                  · intro w'
                    go_simp
                    with_reducible rfl
                  rotate_left
                  · simp only [Act.put, List.setIfInBounds_toArray, List.set_cons_zero, List.set_cons_succ, i64_w, i32_w]
                    rfl
                  refine one_ (i := 19) (N := some 25) #[true, true, true, true, true, true, true, true, true, true, true, true, true, true, true, true, true, true, true, true, false, false, true, true, true, false, false, false] rfl rfl (one_of HT_.out (by kernel_rfl)) (by decide) (fun K hK => ?_)
                  refine goes_ Tryd.func33 (by kernel_rfl) rfl #[.int .i64 a0_14] (by rfl) rfl rfl (by (try simp only [List.map_toArray, List.map_cons, List.map_nil]); first | done | rfl | (simp only [List.length_drop, List.length_take]; rfl)) ?_
                  with_reducible refine (figureheadref25_Dec.calls k a0_14 t200 _ A10.out).mono ?_
                  rintro e w20 ⟨rfl, hb⟩
                  refine ⟨_, rfl, ?_⟩
                  have n0_ := Aside0.mk (blk_below (g := gb196) (o := .cells #[.int .i64 a0_0, .int .i64 a0_1, .string a0_2, .int .i32 a0_3, .string a0_4, .string a0_5, .string a0_6, .string a0_7, .string a0_8, .string a0_9, .string a0_10, .string a0_11, .bool a0_12, .string a0_13, .int .i64 a0_14, .string a0_15] 29 (0, 0)) (by (with_reducible repeat (first | refine blk_drewN ?_ _ | refine blk_drew ?_ | refine blk_alloc ?_ _)); exact BK196.out) hb)
                  have n1_ := Aside0.mk (below_step (by repeat (first | (with_reducible first | exact HB.out | apply below_alloc | apply pw_below_drewN | apply below_drew1 | refine below_set ?_ GE196.out) | exact HB.out)) hb)
                  clear BK196
                  clear HB
                  have BK196 := n0_
                  have HB := n1_
                  clear n0_ n1_
                  (try clear hb)
                  (try clear hb2)
                  (try clear hk)
                  (try clear hi)
                  refine hK.out _ _ ⟨(blk_cell BK196.out 0).trans rfl, (blk_cell BK196.out 1).trans rfl, (blk_cell BK196.out 2).trans rfl, (blk_cell BK196.out 3).trans rfl, (blk_cell BK196.out 4).trans rfl, (blk_cell BK196.out 5).trans rfl, (blk_cell BK196.out 6).trans rfl, (blk_cell BK196.out 7).trans rfl, (blk_cell BK196.out 8).trans rfl, (blk_cell BK196.out 9).trans rfl, (blk_cell BK196.out 10).trans rfl, (blk_cell BK196.out 11).trans rfl, (blk_cell BK196.out 12).trans rfl, (blk_cell BK196.out 13).trans rfl, (blk_cell BK196.out 14).trans rfl, (blk_cell BK196.out 15).trans rfl⟩ (fun hHeld => ?_)
                  clear hK K
                  refine norm_ (a' := ?_) ?_ ?_
                  rotate_left
                  · show Act.put _ (some 25) _ = _
                    simp only [Act.put, List.setIfInBounds_toArray, List.set_cons_zero, List.set_cons_succ, i64_w, i32_w]
                    rfl
                  refine pure_ (i := 20) (N := some 26) (v := ?_) (a' := ?_) #[true, true, true, true, true, true, true, true, true, true, true, true, true, true, true, true, true, true, true, true, true, false, true, true, true, false, false, false] rfl rfl (any_of HT_.out (by kernel_rfl)) (fun _ _ _ h => h) (Or.inl ⟨by rfl, ?_⟩) ?_ ?_
                  rotate_left
                  · intro w'
                    go_simp
                    with_reducible rfl
                  rotate_left
                  · simp only [Act.put, List.setIfInBounds_toArray, List.set_cons_zero, List.set_cons_succ, i64_w, i32_w]
                    rfl
                  refine pure_ (i := 21) (N := some 27) (v := ?_) (a' := ?_) #[true, true, true, true, true, true, true, true, true, true, true, true, true, true, true, true, true, true, true, true, true, true, true, true, true, false, false, false] rfl rfl (any_of HT_.out (by kernel_rfl)) (fun _ _ _ h => h) (Or.inl ⟨by rfl, ?_⟩) ?_ ?_
                  rotate_left
                  · intro w'
                    go_simp
                    with_reducible rfl
                  rotate_left
                  · simp only [Act.put, List.setIfInBounds_toArray, List.set_cons_zero, List.set_cons_succ, i64_w, i32_w]
                    rfl
                  refine one_ (i := 25) (N := some 31) #[true, true, true, true, true, true, true, true, true, true, true, true, true, true, true, true, true, true, true, true, true, true, true, true, true, true, false, false] rfl rfl (one_of HT_.out (by kernel_rfl)) (by decide) (fun K hK => ?_)
                  refine goes_ Tryd.func34 (by kernel_rfl) rfl #[.bool a0_12] (by rfl) rfl rfl (by (try simp only [List.map_toArray, List.map_cons, List.map_nil]); first | done | rfl | (simp only [List.length_drop, List.length_take]; rfl)) ?_
                  with_reducible refine (figureheadref25_bit.calls a0_12 t201 _ A13.out).mono ?_
                  rintro e w' ⟨rfl, ⟨nd, rfl⟩⟩
                  refine ⟨_, rfl, ?_⟩
                  refine hK.out _ _ ⟨(blk_cell BK196.out 0).trans rfl, (blk_cell BK196.out 1).trans rfl, (blk_cell BK196.out 2).trans rfl, (blk_cell BK196.out 3).trans rfl, (blk_cell BK196.out 4).trans rfl, (blk_cell BK196.out 5).trans rfl, (blk_cell BK196.out 6).trans rfl, (blk_cell BK196.out 7).trans rfl, (blk_cell BK196.out 8).trans rfl, (blk_cell BK196.out 9).trans rfl, (blk_cell BK196.out 10).trans rfl, (blk_cell BK196.out 11).trans rfl, (blk_cell BK196.out 12).trans rfl, (blk_cell BK196.out 13).trans rfl, (blk_cell BK196.out 14).trans rfl, (blk_cell BK196.out 15).trans rfl⟩ (fun hHeld => ?_)
                  clear hK K
                  refine norm_ (a' := ?_) ?_ ?_
                  rotate_left
                  · show Act.put _ (some 31) _ = _
                    simp only [Act.put, List.setIfInBounds_toArray, List.set_cons_zero, List.set_cons_succ, i64_w, i32_w]
                    rfl
                  refine pure_ (i := 26) (N := some 32) (v := ?_) (a' := ?_) #[true, true, true, true, true, true, true, true, true, true, true, true, true, true, true, true, true, true, true, true, true, true, true, true, true, true, true, false] rfl rfl (any_of HT_.out (by kernel_rfl)) (fun _ _ _ h => h) (Or.inl ⟨by rfl, ?_⟩) ?_ ?_
                  rotate_left
                  · intro w'
                    go_simp
                    with_reducible rfl
                  rotate_left
                  · simp only [Act.put, List.setIfInBounds_toArray, List.set_cons_zero, List.set_cons_succ, i64_w, i32_w]
                    rfl
                  refine pure_ (i := 27) (N := some 3) (v := ?_) (a' := ?_) #[true, true, true, true, true, true, true, true, true, true, true, true, true, true, true, true, true, true, true, true, true, true, true, true, true, true, true, true] rfl rfl (any_of HT_.out (by kernel_rfl)) (fun _ _ _ h => h) (Or.inl ⟨by rfl, ?_⟩) ?_ ?_
                  rotate_left
                  · intro w'
                    go_simp
                    with_reducible rfl
                  rotate_left
                  · simp only [Act.put, List.setIfInBounds_toArray, List.set_cons_zero, List.set_cons_succ, i64_w, i32_w]
                    rfl
                  refine done_ (done_of HT_.out (by kernel_rfl)) ?_
                  have hcz21_0 : w20.cell? ⟨gb196, 0, none⟩ = some (.int .i64 a0_0) := (blk_cell BK196.out 0).trans rfl
                  have hcz21_1 : w20.cell? ⟨gb196, 1, none⟩ = some (.int .i64 a0_1) := (blk_cell BK196.out 1).trans rfl
                  have hcz21_2 : w20.cell? ⟨gb196, 2, none⟩ = some (.string a0_2) := (blk_cell BK196.out 2).trans rfl
                  have hcz21_3 : w20.cell? ⟨gb196, 3, none⟩ = some (.int .i32 a0_3) := (blk_cell BK196.out 3).trans rfl
                  have hcz21_4 : w20.cell? ⟨gb196, 4, none⟩ = some (.string a0_4) := (blk_cell BK196.out 4).trans rfl
                  have hcz21_5 : w20.cell? ⟨gb196, 5, none⟩ = some (.string a0_5) := (blk_cell BK196.out 5).trans rfl
                  have hcz21_6 : w20.cell? ⟨gb196, 6, none⟩ = some (.string a0_6) := (blk_cell BK196.out 6).trans rfl
                  have hcz21_7 : w20.cell? ⟨gb196, 7, none⟩ = some (.string a0_7) := (blk_cell BK196.out 7).trans rfl
                  have hcz21_8 : w20.cell? ⟨gb196, 8, none⟩ = some (.string a0_8) := (blk_cell BK196.out 8).trans rfl
                  have hcz21_9 : w20.cell? ⟨gb196, 9, none⟩ = some (.string a0_9) := (blk_cell BK196.out 9).trans rfl
                  have hcz21_10 : w20.cell? ⟨gb196, 10, none⟩ = some (.string a0_10) := (blk_cell BK196.out 10).trans rfl
                  have hcz21_11 : w20.cell? ⟨gb196, 11, none⟩ = some (.string a0_11) := (blk_cell BK196.out 11).trans rfl
                  have hcz21_12 : w20.cell? ⟨gb196, 12, none⟩ = some (.bool a0_12) := (blk_cell BK196.out 12).trans rfl
                  have hcz21_13 : w20.cell? ⟨gb196, 13, none⟩ = some (.string a0_13) := (blk_cell BK196.out 13).trans rfl
                  have hcz21_14 : w20.cell? ⟨gb196, 14, none⟩ = some (.int .i64 a0_14) := (blk_cell BK196.out 14).trans rfl
                  have hcz21_15 : w20.cell? ⟨gb196, 15, none⟩ = some (.string a0_15) := (blk_cell BK196.out 15).trans rfl
                  have hfz21_0 := blk_frozen BK196.out 0
                  have hfz21_1 := blk_frozen BK196.out 1
                  have hfz21_2 := blk_frozen BK196.out 2
                  have hfz21_3 := blk_frozen BK196.out 3
                  have hfz21_4 := blk_frozen BK196.out 4
                  have hfz21_5 := blk_frozen BK196.out 5
                  have hfz21_6 := blk_frozen BK196.out 6
                  have hfz21_7 := blk_frozen BK196.out 7
                  have hfz21_8 := blk_frozen BK196.out 8
                  have hfz21_9 := blk_frozen BK196.out 9
                  have hfz21_10 := blk_frozen BK196.out 10
                  have hfz21_11 := blk_frozen BK196.out 11
                  have hfz21_12 := blk_frozen BK196.out 12
                  have hfz21_13 := blk_frozen BK196.out 13
                  have hfz21_14 := blk_frozen BK196.out 14
                  have hfz21_15 := blk_frozen BK196.out 15
                  try go_wp2_with (first | ((with_reducible refine gate_dst (N := 64) rfl ?_); refine Kd.R_lit Kd.string _ 9 ?hg (N := 64) ?hd (xs := ([a0_2, a0_15, a0_13, a0_4, a0_5, a0_6, a0_7, a0_8, a0_9, a0_10, a0_11] : List ByteArray)) (inner := [.string a0_2, .string a0_15, .string a0_13, .string a0_4, .string a0_5, .string a0_6, .string a0_7, .string a0_8, .string a0_9, .string a0_10, .string a0_11]) (ok := fun _ => True) (okp := fun _ => True) ?hr ?hp (fun _ hk => hk) trivial (Below.refl _ _) (Nat.le_refl _) (by simp) ?_; (case hd => rfl); (case hg => rfl); (case hr => first | (go_simp; done) | (go_simp; rfl)); (case hp => exact (Reps.one (show Kd.M Kd.string _ _ _ a0_2 [.string a0_2] from rfl) (Reps.one (show Kd.M Kd.string _ _ _ a0_15 [.string a0_15] from rfl) (Reps.one (show Kd.M Kd.string _ _ _ a0_13 [.string a0_13] from rfl) (Reps.one (show Kd.M Kd.string _ _ _ a0_4 [.string a0_4] from rfl) (Reps.one (show Kd.M Kd.string _ _ _ a0_5 [.string a0_5] from rfl) (Reps.one (show Kd.M Kd.string _ _ _ a0_6 [.string a0_6] from rfl) (Reps.one (show Kd.M Kd.string _ _ _ a0_7 [.string a0_7] from rfl) (Reps.one (show Kd.M Kd.string _ _ _ a0_8 [.string a0_8] from rfl) (Reps.one (show Kd.M Kd.string _ _ _ a0_9 [.string a0_9] from rfl) (Reps.one (show Kd.M Kd.string _ _ _ a0_10 [.string a0_10] from rfl) (Reps.one (show Kd.M Kd.string _ _ _ a0_11 [.string a0_11] from rfl) (Reps.none _ _))))))))))))); intro v203 w22 ho23 hb hg_ hnew_; clear hg_ hnew_; (first | rw [← Ny202.out] at ho23 | (simp only [Int.reduceToNat] at ho23; rw [← Ny202.out] at ho23)); have n0_ := Aside0.mk (Kd.R_lower ho23 (below_size (by repeat (first | (with_reducible first | exact HB.out | apply below_alloc | apply pw_below_drewN | apply below_drew1 | refine below_set ?_ GE196.out) | exact HB.out)))); have n1_ := Aside0.mk (blk_below (g := gb196) (o := .cells #[.int .i64 a0_0, .int .i64 a0_1, .string a0_2, .int .i32 a0_3, .string a0_4, .string a0_5, .string a0_6, .string a0_7, .string a0_8, .string a0_9, .string a0_10, .string a0_11, .bool a0_12, .string a0_13, .int .i64 a0_14, .string a0_15] 29 (0, 0)) (by (with_reducible repeat (first | refine blk_drewN ?_ _ | refine blk_drew ?_ | refine blk_alloc ?_ _)); exact BK196.out) hb); have n2_ := Aside0.mk (below_step (by repeat (first | (with_reducible first | exact HB.out | apply below_alloc | apply pw_below_drewN | apply below_drew1 | refine below_set ?_ GE196.out) | exact HB.out)) hb); clear BK196; clear HB; have HO204 := n0_; have BK196 := n1_; have HB := n2_; clear n0_ n1_ n2_; clear hb ho23; obtain ⟨Ao24, co24, eo24⟩ := Kd.R_slice HO204.out; subst eo24))
                  go_loopg [3, 66] k (fun kq v3 v66 w' => ∃ (x3_1 : ByteArray) (x66_1 : Int), v3 = .string x3_1 ∧ v66 = .int .i64 x66_1 ∧ Aside0 (figureheadref25_Line.l0 kq x3_1 y202 (y202.length : Int) x66_1 = some r) ∧ Aside0 (kq ≤ k) ∧ Aside0 (Kd.R Kd.string 9 w' w.heap.size (fun _ => True) (.slice Ao24 y202.length co24) y202) ∧ Aside0 (w'.heap[gb196]? = some (.cells #[.int .i64 a0_0, .int .i64 a0_1, .string a0_2, .int .i32 a0_3, .string a0_4, .string a0_5, .string a0_6, .string a0_7, .string a0_8, .string a0_9, .string a0_10, .string a0_11, .bool a0_12, .string a0_13, .int .i64 a0_14, .string a0_15] 29 (0, 0))) ∧ Aside0 (Below w.heap.size w w'))
                  case atStart => exact ⟨((((((((t197 ++ (⟨#[32]⟩ : ByteArray)) ++ t198) ++ (⟨#[32]⟩ : ByteArray)) ++ t199) ++ (⟨#[32]⟩ : ByteArray)) ++ t200) ++ (⟨#[32]⟩ : ByteArray)) ++ t201), (0), (by first | rfl | (simp; done) | (simp [*]; done) | (simp [bneNil_]; done)), (by first | rfl | (simp; done) | (simp [*]; done) | (simp [bneNil_]; done)), H', ⟨Nat.le_refl _⟩, ⟨by (with_reducible repeat (first | apply Kd.R_alloc | apply Kd.R_drewN | apply Kd.R_drew)); exact HO204.out⟩, ⟨by (with_reducible repeat (first | refine blk_drewN ?_ _ | refine blk_drew ?_ | refine blk_alloc ?_ _)); exact BK196.out⟩, ⟨by repeat (first | (with_reducible first | exact HB.out | apply below_alloc | apply pw_below_drewN | apply below_drew1 | refine below_set ?_ GE196.out) | exact HB.out)⟩⟩
                  case round =>
                    clear H'
                    try clear c1
                    try clear c2
                    try clear p2
                    try clear c3
                    try clear c3b0
                    try clear c3b1
                    try clear c3b2
                    try clear c5
                    try clear c5b0
                    try clear c5b1
                    try clear c5b2
                    try clear c6
                    try clear c6b0
                    try clear c6b1
                    try clear c6b2
                    try clear p6
                    try clear c8
                    try clear c8b0
                    try clear c8b1
                    try clear c8b2
                    try clear c9
                    try clear c9b0
                    try clear c9b1
                    try clear c9b2
                    try clear c11
                    try clear c11b0
                    try clear c11b1
                    try clear c11b2
                    try clear c12
                    try clear c12b0
                    try clear c12b1
                    try clear c12b2
                    try clear c14
                    try clear c14b0
                    try clear c14b1
                    try clear c14b2
                    try clear c23
                    try clear hcz21_0
                    try clear hcz21_1
                    try clear hcz21_10
                    try clear hcz21_11
                    try clear hcz21_12
                    try clear hcz21_13
                    try clear hcz21_14
                    try clear hcz21_15
                    try clear hcz21_2
                    try clear hcz21_3
                    try clear hcz21_4
                    try clear hcz21_5
                    try clear hcz21_6
                    try clear hcz21_7
                    try clear hcz21_8
                    try clear hcz21_9
                    try clear hfz21_0
                    try clear hfz21_1
                    try clear hfz21_10
                    try clear hfz21_11
                    try clear hfz21_12
                    try clear hfz21_13
                    try clear hfz21_14
                    try clear hfz21_15
                    try clear hfz21_2
                    try clear hfz21_3
                    try clear hfz21_4
                    try clear hfz21_5
                    try clear hfz21_6
                    try clear hfz21_7
                    try clear hfz21_8
                    try clear hfz21_9
                    obtain ⟨x3_1, x66_1, rfl, rfl, HA, HK1, HO_64, BK196, HB⟩ := hrel
                    cases gk with
                    | zero => exact absurd HA.out (by simp [figureheadref25_Line.l0])
                    | succ k1 =>
                      have H := HA.out
                      clear HA
                      simp only [figureheadref25_Line.l0] at H
                      by_cases c25 : x66_1 < (y202.length : Int)
                      · rw [if_pos c25] at H
                        have c25b0 : decide (x66_1 < (y202.length : Int)) = true := decide_eq_true c25
                        clear c25
                        by_cases c26 : 0 ≤ x66_1
                        · rw [if_pos c26] at H
                          have c26b0 : decide (0 ≤ x66_1) = true := decide_eq_true c26
                          clear c26
                          by_cases c27 : x66_1 < (y202.length : Int)
                          · rw [if_pos c27] at H
                            have c27b0 : decide (x66_1 < (y202.length : Int)) = true := decide_eq_true c27
                            clear c27
                            by_cases c28 : x3_1.size + 2 ≤ 9223372036854775807
                            · rw [if_pos c28] at H
                              have c28b0 := eq_true c28
                              have c28b1 : decide (x3_1.size + 2 ≤ 9223372036854775807) = true := decide_eq_true c28
                              try have c28b2 : (9223372036854775807 < x3_1.size + 2) = False := eq_false (Nat.not_lt.2 c28)
                              replace H := Option.bind_eq_some_iff.mp H
                              obtain ⟨t206, A290, H⟩ := H
                              replace H : (if (x3_1 ++ (⟨#[32, 120]⟩ : ByteArray)).size + t206.size ≤ 9223372036854775807 then (figureheadref25_Line.l0 k1 ((x3_1 ++ (⟨#[32, 120]⟩ : ByteArray)) ++ t206) y202 (y202.length : Int) (wrap64 (x66_1 + 1))) else (none)) = some r := H
                              have A29 := Aside0.mk A290
                              clear A290
                              by_cases c30 : (x3_1 ++ (⟨#[32, 120]⟩ : ByteArray)).size + t206.size ≤ 9223372036854775807
                              · rw [if_pos c30] at H
                                have c30b0 := eq_true c30
                                have c30b1 : decide ((x3_1 ++ (⟨#[32, 120]⟩ : ByteArray)).size + t206.size ≤ 9223372036854775807) = true := decide_eq_true c30
                                try have c30b2 : (9223372036854775807 < (x3_1 ++ (⟨#[32, 120]⟩ : ByteArray)).size + t206.size) = False := eq_false (Nat.not_lt.2 c30)
                                (try (have c30b3 : (9223372036854775807 < x3_1.size + 2 + t206.size) = False := eq_false (by have h_ := c30; have k0_ : (⟨#[32, 120]⟩ : ByteArray).size = 2 := rfl; simp only [ByteArray.size_append] at h_; omega)))
                                (try (have c30b4 : (x3_1.size + 2 + t206.size ≤ 9223372036854775807) = True := eq_true (by have h_ := c30; have k0_ : (⟨#[32, 120]⟩ : ByteArray).size = 2 := rfl; simp only [ByteArray.size_append] at h_; omega)))
                                have H' := Aside0.mk H
                                clear H
                                have p205 : 0 ≤ (x66_1 : Int) := of_decide_eq_true (by first | (with_reducible assumption) | assumption)
                                have q205 : x66_1 < (y202.length : Int) := of_decide_eq_true (by first | (with_reducible assumption) | assumption)
                                obtain ⟨ad205, e205, hx205_0⟩ := Kd.at_string (Kd.R_reads' HO_64.out).2.2 x66_1 p205 q205
                                cases e205
                                replace p205 := eq_true p205
                                replace q205 := eq_true q205
                                go_wp2_with (first | ((with_reducible refine gate_callee (f := 13) rfl ?_); refine goesL_ (some 73) rfl rfl Tryd.func13 (by kernel_rfl) rfl #[.string (rdOf ByteArray.empty y202 x66_1)] rfl (by (try simp only [List.map_toArray, List.map_cons, List.map_nil]); first | done | rfl | (simp only [List.length_drop, List.length_take]; rfl)) ?_; (with_reducible refine (figureheadref25_Hex.calls (rdOf ByteArray.empty y202 x66_1) t206 _ A29.out).mono ?_); rintro e w31 ⟨rfl, hb⟩; refine ⟨_, rfl, ?_⟩; have n0_ := Aside0.mk (Kd.R_below (by (with_reducible repeat (first | apply Kd.R_alloc | apply Kd.R_drewN | apply Kd.R_drew)); exact HO_64.out) hb); have n1_ := Aside0.mk (blk_below (g := gb196) (o := .cells #[.int .i64 a0_0, .int .i64 a0_1, .string a0_2, .int .i32 a0_3, .string a0_4, .string a0_5, .string a0_6, .string a0_7, .string a0_8, .string a0_9, .string a0_10, .string a0_11, .bool a0_12, .string a0_13, .int .i64 a0_14, .string a0_15] 29 (0, 0)) (by (with_reducible repeat (first | refine blk_drewN ?_ _ | refine blk_drew ?_ | refine blk_alloc ?_ _)); exact BK196.out) hb); have n2_ := Aside0.mk (below_step (by repeat (first | (with_reducible first | exact HB.out | apply below_alloc | apply pw_below_drewN | apply below_drew1 | refine below_set ?_ GE196.out) | exact HB.out)) hb); clear HO_64; clear BK196; clear HB; have HO_64 := n0_; have BK196 := n1_; have HB := n2_; clear n0_ n1_ n2_; (try clear hb); (try clear hb2); (try clear hk); (try clear hi)))
                                go_roundg k1
                                case measure => have := HK1.out; omega
                                case rel => exact ⟨((x3_1 ++ (⟨#[32, 120]⟩ : ByteArray)) ++ t206), (wrap64 (x66_1 + 1)), (by first | rfl | (simp; done) | (simp [*]; done) | (simp [bneNil_]; done)), (by first | rfl | (simp; done) | (simp [*]; done) | (simp [bneNil_]; done)), H', ⟨by have := HK1.out; omega⟩, ⟨by (with_reducible repeat (first | apply Kd.R_alloc | apply Kd.R_drewN | apply Kd.R_drew)); exact HO_64.out⟩, ⟨by (with_reducible repeat (first | refine blk_drewN ?_ _ | refine blk_drew ?_ | refine blk_alloc ?_ _)); exact BK196.out⟩, ⟨by repeat (first | (with_reducible first | exact HB.out | apply below_alloc | apply pw_below_drewN | apply below_drew1 | refine below_set ?_ GE196.out) | exact HB.out)⟩⟩
                              · rw [if_neg c30] at H
                                exact absurd H (by simp)
                            · rw [if_neg c28] at H
                              exact absurd H (by simp)
                          · rw [if_neg c27] at H
                            exact absurd H (by simp)
                        · rw [if_neg c26] at H
                          exact absurd H (by simp)
                      · rw [if_neg c25] at H
                        have c25b0 : decide (x66_1 < (y202.length : Int)) = false := decide_eq_false c25
                        clear c25
                        by_cases c32 : x3_1.size + 1 ≤ 9223372036854775807
                        · rw [if_pos c32] at H
                          have c32b0 := eq_true c32
                          have c32b1 : decide (x3_1.size + 1 ≤ 9223372036854775807) = true := decide_eq_true c32
                          try have c32b2 : (9223372036854775807 < x3_1.size + 1) = False := eq_false (Nat.not_lt.2 c32)
                          obtain rfl := Option.some.inj H
                          go_wp2
                          go_ret
                          exact ⟨by first | rfl | (simp [errW_none, errW_some] <;> rfl) | (simp [*, errW_none, errW_some] <;> rfl), by repeat (first | (with_reducible first | exact HB.out | apply below_alloc | apply pw_below_drewN | apply below_drew1 | refine below_set ?_ GE196.out) | exact HB.out)⟩
                        · rw [if_neg c32] at H
                          exact absurd H (by simp)
                · rw [if_neg c14] at H
                  exact absurd H (by simp)
              · rw [if_neg c12] at H
                exact absurd H (by simp)
            · rw [if_neg c11] at H
              exact absurd H (by simp)
          · rw [if_neg c9] at H
            exact absurd H (by simp)
        · rw [if_neg c8] at H
          exact absurd H (by simp)
      · rw [if_neg c6] at H
        exact absurd H (by simp)
    · rw [if_neg c5] at H
      exact absurd H (by simp)
  · rw [if_neg c3] at H
    exact absurd H (by simp)

end Go.Proofs.YtegndehoiodjeaaDoor.Print
