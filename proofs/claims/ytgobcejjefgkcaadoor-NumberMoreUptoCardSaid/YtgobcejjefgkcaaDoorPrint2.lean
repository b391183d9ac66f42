/- Functions of the program as Lean functions, and that the program's calls answer so: printed by this session's own program (wip/tools/pext.py) out of the translation. Conditions: each theorem's own. Not trusted: Lean checks it. -/
import Derived.Test.YtgobcejjefgkcaaDoorPrint0
namespace Go.Proofs.YtgobcejjefgkcaaDoor.Print
open Go.RowKit Go.Proofs.YtgobcejjefgkcaaDoorW.PrintWords Go.Proofs.YtgobcejjefgkcaaDoorW.PrintLast Go.Proofs.YtgobcejjefgkcaaDoorW.PrintMore
attribute [local go_sem] max2_int min2_int max_two min_two max_three min_three max_four min_four   -- for this text's walks alone
set_option linter.unusedVariables false
set_option linter.unusedSimpArgs false

/-! ### number_least: function 29 -/
mutual
def number_least.j0 : Nat → Int → List (S70) → List (S70) → Bool → List (S70) → List (S70) → Int → Int → Int → Int → Int → Int → Int → Int → ByteArray → Bool → Int → Bool → Int → Int → Int → Option (Int)
  | 0, _, _, _, _, _, _, _, _, _, _, _, _, _, _, _, _, _, _, _, _, _ => none
  | k + 1, x3, x103000, x103001, x103002, x103003, x103004, x103005, x103006, x103007, x103008, x103009, x103010, x103011, x103012, x103013, x103014, x103015, x103016, x103017, x103018, x103019 => if x103014 = true then (number_least.j1 k x3 (x103009 == 0) x103000 x103001 x103002 x103003 x103004 x103005 x103006 x103007 x103008 x103009 x103010 x103011 x103012 x103013 x103014 x103015 x103016 x103017 x103018 x103019) else (number_least.j1 k x3 false x103000 x103001 x103002 x103003 x103004 x103005 x103006 x103007 x103008 x103009 x103010 x103011 x103012 x103013 x103014 x103015 x103016 x103017 x103018 x103019)
def number_least.j1 : Nat → Int → Bool → List (S70) → List (S70) → Bool → List (S70) → List (S70) → Int → Int → Int → Int → Int → Int → Int → Int → ByteArray → Bool → Int → Bool → Int → Int → Int → Option (Int)
  | 0, _, _, _, _, _, _, _, _, _, _, _, _, _, _, _, _, _, _, _, _, _, _ => none
  | k + 1, x3, x7, x103000, x103001, x103002, x103003, x103004, x103005, x103006, x103007, x103008, x103009, x103010, x103011, x103012, x103013, x103014, x103015, x103016, x103017, x103018, x103019 => if x7 = true then (some x103006) else (if x103011 > 0 then (number_least.j2 k x3 (x103012 != x103011) x103000 x103001 x103002 x103003 x103004 x103005 x103006 x103007 x103008 x103009 x103010 x103011 x103012 x103013 x103014 x103015 x103016 x103017 x103018 x103019) else (number_least.j2 k x3 false x103000 x103001 x103002 x103003 x103004 x103005 x103006 x103007 x103008 x103009 x103010 x103011 x103012 x103013 x103014 x103015 x103016 x103017 x103018 x103019))
def number_least.j2 : Nat → Int → Bool → List (S70) → List (S70) → Bool → List (S70) → List (S70) → Int → Int → Int → Int → Int → Int → Int → Int → ByteArray → Bool → Int → Bool → Int → Int → Int → Option (Int)
  | 0, _, _, _, _, _, _, _, _, _, _, _, _, _, _, _, _, _, _, _, _, _, _ => none
  | k + 1, x3, x17, x103000, x103001, x103002, x103003, x103004, x103005, x103006, x103007, x103008, x103009, x103010, x103011, x103012, x103013, x103014, x103015, x103016, x103017, x103018, x103019 => if x17 = true then (some (wrap64 ((wrap64 (x103011 + x103012)) + 1))) else (if x103011 > 0 then (some (wrap64 (x103011 + 1))) else (some x3))
end
def number_least.f (k : Nat) (l0_0 : List (S70)) (l0_1 : List (S70)) (a0_2 : Bool) (l0_3 : List (S70)) (l0_4 : List (S70)) (a0_5 : Int) (a0_6 : Int) (a0_7 : Int) (a0_8 : Int) (a0_9 : Int) (a0_10 : Int) (a0_11 : Int) (a0_12 : Int) (a0_13 : ByteArray) (a0_14 : Bool) (a0_15 : Int) (a0_16 : Bool) (a0_17 : Int) (a0_18 : Int) (a0_19 : Int) : Option (Int) := if a0_8 = 0 then (number_least.j0 k 1 l0_0 l0_1 a0_2 l0_3 l0_4 a0_5 a0_6 a0_7 a0_8 a0_9 a0_10 a0_11 a0_12 a0_13 a0_14 a0_15 a0_16 a0_17 a0_18 a0_19) else (number_least.j0 k 0 l0_0 l0_1 a0_2 l0_3 l0_4 a0_5 a0_6 a0_7 a0_8 a0_9 a0_10 a0_11 a0_12 a0_13 a0_14 a0_15 a0_16 a0_17 a0_18 a0_19)
theorem number_least.mono_l : ∀ k, (∀ y0 y1 y2 y3 y4 y5 y6 y7 y8 y9 y10 y11 y12 y13 y14 y15 y16 y17 y18 y19 y20, LeO (number_least.j0 k y0 y1 y2 y3 y4 y5 y6 y7 y8 y9 y10 y11 y12 y13 y14 y15 y16 y17 y18 y19 y20) (number_least.j0 (k + 1) y0 y1 y2 y3 y4 y5 y6 y7 y8 y9 y10 y11 y12 y13 y14 y15 y16 y17 y18 y19 y20)) ∧ (∀ y0 y1 y2 y3 y4 y5 y6 y7 y8 y9 y10 y11 y12 y13 y14 y15 y16 y17 y18 y19 y20 y21, LeO (number_least.j1 k y0 y1 y2 y3 y4 y5 y6 y7 y8 y9 y10 y11 y12 y13 y14 y15 y16 y17 y18 y19 y20 y21) (number_least.j1 (k + 1) y0 y1 y2 y3 y4 y5 y6 y7 y8 y9 y10 y11 y12 y13 y14 y15 y16 y17 y18 y19 y20 y21)) ∧ (∀ y0 y1 y2 y3 y4 y5 y6 y7 y8 y9 y10 y11 y12 y13 y14 y15 y16 y17 y18 y19 y20 y21, LeO (number_least.j2 k y0 y1 y2 y3 y4 y5 y6 y7 y8 y9 y10 y11 y12 y13 y14 y15 y16 y17 y18 y19 y20 y21) (number_least.j2 (k + 1) y0 y1 y2 y3 y4 y5 y6 y7 y8 y9 y10 y11 y12 y13 y14 y15 y16 y17 y18 y19 y20 y21))
  | 0 => ⟨fun _ _ _ _ _ _ _ _ _ _ _ _ _ _ _ _ _ _ _ _ _ r h => by simp [number_least.j0] at h, fun _ _ _ _ _ _ _ _ _ _ _ _ _ _ _ _ _ _ _ _ _ _ r h => by simp [number_least.j1] at h, fun _ _ _ _ _ _ _ _ _ _ _ _ _ _ _ _ _ _ _ _ _ _ r h => by simp [number_least.j2] at h⟩
  | k + 1 => by
    obtain ⟨ih0, ih1, ih2⟩ := number_least.mono_l k
    refine ⟨?_, ?_, ?_⟩
    · intro y0 y1 y2 y3 y4 y5 y6 y7 y8 y9 y10 y11 y12 y13 y14 y15 y16 y17 y18 y19 y20
      unfold number_least.j0
      repeat' first
      | (with_reducible exact ih0 _ _ _ _ _ _ _ _ _ _ _ _ _ _ _ _ _ _ _ _ _)
      | (with_reducible exact ih1 _ _ _ _ _ _ _ _ _ _ _ _ _ _ _ _ _ _ _ _ _ _)
      | (with_reducible exact ih2 _ _ _ _ _ _ _ _ _ _ _ _ _ _ _ _ _ _ _ _ _ _)
      | (with_reducible exact LeO.refl _)
      | (with_reducible exact LeO.none _)
      | (with_reducible refine LeO.ite ?_ ?_)
      | (with_reducible refine LeO.bind ?_ (fun _ => ?_))
      | exact ih0 _ _ _ _ _ _ _ _ _ _ _ _ _ _ _ _ _ _ _ _ _
      | exact ih1 _ _ _ _ _ _ _ _ _ _ _ _ _ _ _ _ _ _ _ _ _ _
      | exact ih2 _ _ _ _ _ _ _ _ _ _ _ _ _ _ _ _ _ _ _ _ _ _
      | exact LeO.none _
      | refine LeO.ite ?_ ?_
      | refine LeO.bind ?_ (fun _ => ?_)
    · intro y0 y1 y2 y3 y4 y5 y6 y7 y8 y9 y10 y11 y12 y13 y14 y15 y16 y17 y18 y19 y20 y21
      unfold number_least.j1
      repeat' first
      | (with_reducible exact ih0 _ _ _ _ _ _ _ _ _ _ _ _ _ _ _ _ _ _ _ _ _)
      | (with_reducible exact ih1 _ _ _ _ _ _ _ _ _ _ _ _ _ _ _ _ _ _ _ _ _ _)
      | (with_reducible exact ih2 _ _ _ _ _ _ _ _ _ _ _ _ _ _ _ _ _ _ _ _ _ _)
      | (with_reducible exact LeO.refl _)
      | (with_reducible exact LeO.none _)
      | (with_reducible refine LeO.ite ?_ ?_)
      | (with_reducible refine LeO.bind ?_ (fun _ => ?_))
      | exact ih0 _ _ _ _ _ _ _ _ _ _ _ _ _ _ _ _ _ _ _ _ _
      | exact ih1 _ _ _ _ _ _ _ _ _ _ _ _ _ _ _ _ _ _ _ _ _ _
      | exact ih2 _ _ _ _ _ _ _ _ _ _ _ _ _ _ _ _ _ _ _ _ _ _
      | exact LeO.none _
      | refine LeO.ite ?_ ?_
      | refine LeO.bind ?_ (fun _ => ?_)
    · intro y0 y1 y2 y3 y4 y5 y6 y7 y8 y9 y10 y11 y12 y13 y14 y15 y16 y17 y18 y19 y20 y21
      unfold number_least.j2
      repeat' first
      | (with_reducible exact ih0 _ _ _ _ _ _ _ _ _ _ _ _ _ _ _ _ _ _ _ _ _)
      | (with_reducible exact ih1 _ _ _ _ _ _ _ _ _ _ _ _ _ _ _ _ _ _ _ _ _ _)
      | (with_reducible exact ih2 _ _ _ _ _ _ _ _ _ _ _ _ _ _ _ _ _ _ _ _ _ _)
      | (with_reducible exact LeO.refl _)
      | (with_reducible exact LeO.none _)
      | (with_reducible refine LeO.ite ?_ ?_)
      | (with_reducible refine LeO.bind ?_ (fun _ => ?_))
      | exact ih0 _ _ _ _ _ _ _ _ _ _ _ _ _ _ _ _ _ _ _ _ _
      | exact ih1 _ _ _ _ _ _ _ _ _ _ _ _ _ _ _ _ _ _ _ _ _ _
      | exact ih2 _ _ _ _ _ _ _ _ _ _ _ _ _ _ _ _ _ _ _ _ _ _
      | exact LeO.none _
      | refine LeO.ite ?_ ?_
      | refine LeO.bind ?_ (fun _ => ?_)
theorem number_least.mono : ∀ a0 a1 a2 a3 a4 a5 a6 a7 a8 a9 a10 a11 a12 a13 a14 a15 a16 a17 a18 a19 k, LeO (number_least.f k a0 a1 a2 a3 a4 a5 a6 a7 a8 a9 a10 a11 a12 a13 a14 a15 a16 a17 a18 a19) (number_least.f (k + 1) a0 a1 a2 a3 a4 a5 a6 a7 a8 a9 a10 a11 a12 a13 a14 a15 a16 a17 a18 a19) := by
  intro a0 a1 a2 a3 a4 a5 a6 a7 a8 a9 a10 a11 a12 a13 a14 a15 a16 a17 a18 a19 k
  obtain ⟨ih0, ih1, ih2⟩ := number_least.mono_l k
  unfold number_least.f
  repeat' first
      | (with_reducible exact ih0 _ _ _ _ _ _ _ _ _ _ _ _ _ _ _ _ _ _ _ _ _)
      | (with_reducible exact ih1 _ _ _ _ _ _ _ _ _ _ _ _ _ _ _ _ _ _ _ _ _ _)
      | (with_reducible exact ih2 _ _ _ _ _ _ _ _ _ _ _ _ _ _ _ _ _ _ _ _ _ _)
      | (with_reducible exact LeO.refl _)
      | (with_reducible exact LeO.none _)
      | (with_reducible refine LeO.ite ?_ ?_)
      | (with_reducible refine LeO.bind ?_ (fun _ => ?_))
      | exact ih0 _ _ _ _ _ _ _ _ _ _ _ _ _ _ _ _ _ _ _ _ _
      | exact ih1 _ _ _ _ _ _ _ _ _ _ _ _ _ _ _ _ _ _ _ _ _ _
      | exact ih2 _ _ _ _ _ _ _ _ _ _ _ _ _ _ _ _ _ _ _ _ _ _
      | exact LeO.none _
      | refine LeO.ite ?_ ?_
      | refine LeO.bind ?_ (fun _ => ?_)
set_option maxHeartbeats 8000000 in
set_option maxRecDepth 100000 in
theorem number_least.calls (k : Nat) (A0_0 : Option Addr) (c0_0 : Nat) (l0_0 : List (S70)) (A0_1 : Option Addr) (c0_1 : Nat) (l0_1 : List (S70)) (a0_2 : Bool) (A0_3 : Option Addr) (c0_3 : Nat) (l0_3 : List (S70)) (A0_4 : Option Addr) (c0_4 : Nat) (l0_4 : List (S70)) (a0_5 : Int) (a0_6 : Int) (a0_7 : Int) (a0_8 : Int) (a0_9 : Int) (a0_10 : Int) (a0_11 : Int) (a0_12 : Int) (a0_13 : ByteArray) (a0_14 : Bool) (a0_15 : Int) (a0_16 : Bool) (a0_17 : Int) (a0_18 : Int) (a0_19 : Int) (r : Int) (w : World) (hr0_0 : Kd.C k70 w A0_0 l0_0.length l0_0) (hc0_0 : l0_0.length ≤ c0_0) (hr0_1 : Kd.C k70 w A0_1 l0_1.length l0_1) (hc0_1 : l0_1.length ≤ c0_1) (hr0_3 : Kd.C k70 w A0_3 l0_3.length l0_3) (hc0_3 : l0_3.length ≤ c0_3) (hr0_4 : Kd.C k70 w A0_4 l0_4.length l0_4) (hc0_4 : l0_4.length ≤ c0_4) (h : number_least.f k l0_0 l0_1 a0_2 l0_3 l0_4 a0_5 a0_6 a0_7 a0_8 a0_9 a0_10 a0_11 a0_12 a0_13 a0_14 a0_15 a0_16 a0_17 a0_18 a0_19 = some r) :
    Calls Tryd.prog 29 #[.agg #[.slice A0_0 l0_0.length c0_0, .slice A0_1 l0_1.length c0_1, .bool a0_2, .slice A0_3 l0_3.length c0_3, .slice A0_4 l0_4.length c0_4, .int .i64 a0_5, .int .i64 a0_6, .int .i64 a0_7, .int .i64 a0_8, .int .i64 a0_9, .int .i64 a0_10, .int .i64 a0_11, .int .i64 a0_12, .string a0_13, .bool a0_14, .int .i64 a0_15, .bool a0_16, .int .i64 a0_17, .int .i32 a0_18, .int .i64 a0_19]] w fun e w' => e = .returned (.int .i64 r) ∧ Below w.heap.size w w' := by
  have hu25 := Tryd.underlying25
  have HR0_0 := Aside0.mk hr0_0
  have HC0_0 := Aside0.mk hc0_0
  clear hr0_0 hc0_0
  have HR0_1 := Aside0.mk hr0_1
  have HC0_1 := Aside0.mk hc0_1
  clear hr0_1 hc0_1
  have HR0_3 := Aside0.mk hr0_3
  have HC0_3 := Aside0.mk hc0_3
  clear hr0_3 hc0_3
  have HR0_4 := Aside0.mk hr0_4
  have HC0_4 := Aside0.mk hc0_4
  clear hr0_4 hc0_4
  have HB := Aside0.mk (Below.refl w.heap.size w)
  have H : (if a0_8 = 0 then (number_least.j0 k 1 l0_0 l0_1 a0_2 l0_3 l0_4 a0_5 a0_6 a0_7 a0_8 a0_9 a0_10 a0_11 a0_12 a0_13 a0_14 a0_15 a0_16 a0_17 a0_18 a0_19) else (number_least.j0 k 0 l0_0 l0_1 a0_2 l0_3 l0_4 a0_5 a0_6 a0_7 a0_8 a0_9 a0_10 a0_11 a0_12 a0_13 a0_14 a0_15 a0_16 a0_17 a0_18 a0_19)) = some r := h
  clear h
  have HC2 := Aside0.mk H
  clear H
  go_enter Tryd.func29, Tryd.ntmps29
  go_upto_if 6 with (first | ((with_reducible refine gate_dst (N := 1) rfl ?_); refine box_event ?hg (N := 1) ?hd (cs := #[.slice A0_0 l0_0.length c0_0, .slice A0_1 l0_1.length c0_1, .bool a0_2, .slice A0_3 l0_3.length c0_3, .slice A0_4 l0_4.length c0_4, .int .i64 a0_5, .int .i64 a0_6, .int .i64 a0_7, .int .i64 a0_8, .int .i64 a0_9, .int .i64 a0_10, .int .i64 a0_11, .int .i64 a0_12, .string a0_13, .bool a0_14, .int .i64 a0_15, .bool a0_16, .int .i64 a0_17, .int .i32 a0_18, .int .i64 a0_19]) (t := 25) ?hr ?_; (case hd => rfl); (case hg => rfl); (case hr => first | (go_simp; done) | (go_simp; rfl)); intro gb102 hg w3 hbox hb; have n0_ := Aside0.mk (below_step (by repeat (first | (with_reducible first | exact HB.out | apply below_alloc | apply pw_below_drewN | apply below_drew1) | exact HB.out)) hb); have n1_ := Aside0.mk (hbox); have n2_ := Aside0.mk ((by rw [hg]; exact (below_size (by repeat (first | (with_reducible first | exact HB.out | apply below_alloc | apply pw_below_drewN | apply below_drew1) | exact HB.out))) : w.heap.size ≤ gb102)); have n3_ := Aside0.mk ((by rw [hg]; exact (below_size (by repeat (first | (with_reducible first | exact HB.out | apply below_alloc | apply pw_below_drewN | apply below_drew1) | exact HB.out))) : w.heap.size ≤ gb102)); clear HB; have HB := n0_; have BK102 := n1_; have GW102 := n2_; have GE102 := n3_; clear n0_ n1_ n2_ n3_; clear hb hbox hg; have hcz4_0 : w3.cell? ⟨gb102, 0, none⟩ = some (.slice A0_0 l0_0.length c0_0) := (blk_cell BK102.out 0).trans rfl; have hcz4_1 : w3.cell? ⟨gb102, 1, none⟩ = some (.slice A0_1 l0_1.length c0_1) := (blk_cell BK102.out 1).trans rfl; have hcz4_2 : w3.cell? ⟨gb102, 2, none⟩ = some (.bool a0_2) := (blk_cell BK102.out 2).trans rfl; have hcz4_3 : w3.cell? ⟨gb102, 3, none⟩ = some (.slice A0_3 l0_3.length c0_3) := (blk_cell BK102.out 3).trans rfl; have hcz4_4 : w3.cell? ⟨gb102, 4, none⟩ = some (.slice A0_4 l0_4.length c0_4) := (blk_cell BK102.out 4).trans rfl; have hcz4_5 : w3.cell? ⟨gb102, 5, none⟩ = some (.int .i64 a0_5) := (blk_cell BK102.out 5).trans rfl; have hcz4_6 : w3.cell? ⟨gb102, 6, none⟩ = some (.int .i64 a0_6) := (blk_cell BK102.out 6).trans rfl; have hcz4_7 : w3.cell? ⟨gb102, 7, none⟩ = some (.int .i64 a0_7) := (blk_cell BK102.out 7).trans rfl; have hcz4_8 : w3.cell? ⟨gb102, 8, none⟩ = some (.int .i64 a0_8) := (blk_cell BK102.out 8).trans rfl; have hcz4_9 : w3.cell? ⟨gb102, 9, none⟩ = some (.int .i64 a0_9) := (blk_cell BK102.out 9).trans rfl; have hcz4_10 : w3.cell? ⟨gb102, 10, none⟩ = some (.int .i64 a0_10) := (blk_cell BK102.out 10).trans rfl; have hcz4_11 : w3.cell? ⟨gb102, 11, none⟩ = some (.int .i64 a0_11) := (blk_cell BK102.out 11).trans rfl; have hcz4_12 : w3.cell? ⟨gb102, 12, none⟩ = some (.int .i64 a0_12) := (blk_cell BK102.out 12).trans rfl; have hcz4_13 : w3.cell? ⟨gb102, 13, none⟩ = some (.string a0_13) := (blk_cell BK102.out 13).trans rfl; have hcz4_14 : w3.cell? ⟨gb102, 14, none⟩ = some (.bool a0_14) := (blk_cell BK102.out 14).trans rfl; have hcz4_15 : w3.cell? ⟨gb102, 15, none⟩ = some (.int .i64 a0_15) := (blk_cell BK102.out 15).trans rfl; have hcz4_16 : w3.cell? ⟨gb102, 16, none⟩ = some (.bool a0_16) := (blk_cell BK102.out 16).trans rfl; have hcz4_17 : w3.cell? ⟨gb102, 17, none⟩ = some (.int .i64 a0_17) := (blk_cell BK102.out 17).trans rfl; have hcz4_18 : w3.cell? ⟨gb102, 18, none⟩ = some (.int .i32 a0_18) := (blk_cell BK102.out 18).trans rfl; have hcz4_19 : w3.cell? ⟨gb102, 19, none⟩ = some (.int .i64 a0_19) := (blk_cell BK102.out 19).trans rfl; have hfz4_0 := blk_frozen BK102.out 0; have hfz4_1 := blk_frozen BK102.out 1; have hfz4_2 := blk_frozen BK102.out 2; have hfz4_3 := blk_frozen BK102.out 3; have hfz4_4 := blk_frozen BK102.out 4; have hfz4_5 := blk_frozen BK102.out 5; have hfz4_6 := blk_frozen BK102.out 6; have hfz4_7 := blk_frozen BK102.out 7; have hfz4_8 := blk_frozen BK102.out 8; have hfz4_9 := blk_frozen BK102.out 9; have hfz4_10 := blk_frozen BK102.out 10; have hfz4_11 := blk_frozen BK102.out 11; have hfz4_12 := blk_frozen BK102.out 12; have hfz4_13 := blk_frozen BK102.out 13; have hfz4_14 := blk_frozen BK102.out 14; have hfz4_15 := blk_frozen BK102.out 15; have hfz4_16 := blk_frozen BK102.out 16; have hfz4_17 := blk_frozen BK102.out 17; have hfz4_18 := blk_frozen BK102.out 18; have hfz4_19 := blk_frozen BK102.out 19))
  (try simp only [Act.put, List.setIfInBounds_toArray, List.set_cons_zero, List.set_cons_succ])
  go_cut [3] (fun v3 wc => ∃ (kq : Nat) (x3_1 : Int), v3 = .int .i64 x3_1 ∧ Aside0 (number_least.j0 kq x3_1 l0_0 l0_1 a0_2 l0_3 l0_4 a0_5 a0_6 a0_7 a0_8 a0_9 a0_10 a0_11 a0_12 a0_13 a0_14 a0_15 a0_16 a0_17 a0_18 a0_19 = some r) ∧ Aside0 (kq ≤ k) ∧ Aside0 (wc.heap[gb102]? = some (.cells #[(.slice A0_0 l0_0.length c0_0), (.slice A0_1 l0_1.length c0_1), .bool a0_2, (.slice A0_3 l0_3.length c0_3), (.slice A0_4 l0_4.length c0_4), .int .i64 a0_5, .int .i64 a0_6, .int .i64 a0_7, .int .i64 a0_8, .int .i64 a0_9, .int .i64 a0_10, .int .i64 a0_11, .int .i64 a0_12, .string a0_13, .bool a0_14, .int .i64 a0_15, .bool a0_16, .int .i64 a0_17, .int .i32 a0_18, .int .i64 a0_19] 25 (0, 0))) ∧ Aside0 (Below w.heap.size w wc))
  case first =>
    have H := HC2.out
    clear HC2
    by_cases c5 : a0_8 = 0
    · rw [if_pos c5] at H
      have c5b0 : (a0_8 == 0) = true := beq_iff_eq.mpr c5
      have c5b1 : (a0_8 != 0) = false := bne_eq_false_iff_eq.mpr c5
      clear c5
      (first | rw [c5b0] | (simp only [i64_w, i32_w]; rw [c5b0]) | skip)
      have H' := Aside0.mk H
      clear H
      go_wp2
      go_meet
      case rel => exact ⟨_, (1), (by first | rfl | (simp; done) | (simp [*]; done) | (simp [bneNil_]; done)), H', ⟨by first | omega | exact Nat.le_refl _⟩, ⟨by (with_reducible repeat (first | refine blk_drewN ?_ _ | refine blk_drew ?_ | refine blk_alloc ?_ _)); exact BK102.out⟩, ⟨by repeat (first | (with_reducible first | exact HB.out | apply below_alloc | apply pw_below_drewN | apply below_drew1 | refine below_set ?_ GE102.out) | exact HB.out)⟩⟩
    · rw [if_neg c5] at H
      have c5b0 : (a0_8 == 0) = false := beq_eq_false_iff_ne.mpr c5
      have c5b1 : (a0_8 != 0) = true := bne_iff_ne.mpr c5
      (first | rw [c5b0] | (simp only [i64_w, i32_w]; rw [c5b0]) | skip)
      have H' := Aside0.mk H
      clear H
      go_wp2
      go_meet
      case rel => exact ⟨_, (0), (by first | rfl | (simp; done) | (simp [*]; done) | (simp [bneNil_]; done)), H', ⟨by first | omega | exact Nat.le_refl _⟩, ⟨by (with_reducible repeat (first | refine blk_drewN ?_ _ | refine blk_drew ?_ | refine blk_alloc ?_ _)); exact BK102.out⟩, ⟨by repeat (first | (with_reducible first | exact HB.out | apply below_alloc | apply pw_below_drewN | apply below_drew1 | refine below_set ?_ GE102.out) | exact HB.out)⟩⟩
  case rest =>
    clear HC2
    try clear c2
    try clear p2
    try clear c5
    try clear c5b0
    try clear c5b1
    try clear hcz4_0
    try clear hcz4_1
    try clear hcz4_10
    try clear hcz4_11
    try clear hcz4_12
    try clear hcz4_13
    try clear hcz4_14
    try clear hcz4_15
    try clear hcz4_16
    try clear hcz4_17
    try clear hcz4_18
    try clear hcz4_19
    try clear hcz4_2
    try clear hcz4_3
    try clear hcz4_4
    try clear hcz4_5
    try clear hcz4_6
    try clear hcz4_7
    try clear hcz4_8
    try clear hcz4_9
    try clear hfz4_0
    try clear hfz4_1
    try clear hfz4_10
    try clear hfz4_11
    try clear hfz4_12
    try clear hfz4_13
    try clear hfz4_14
    try clear hfz4_15
    try clear hfz4_16
    try clear hfz4_17
    try clear hfz4_18
    try clear hfz4_19
    try clear hfz4_2
    try clear hfz4_3
    try clear hfz4_4
    try clear hfz4_5
    try clear hfz4_6
    try clear hfz4_7
    try clear hfz4_8
    try clear hfz4_9
    obtain ⟨kq, x3_1, rfl, HA, HJ1, BK102, HB⟩ := hcut
    cases kq with
    | zero => exact absurd HA.out (by simp [number_least.j0])
    | succ kj1 =>
      have H := HA.out
      clear HA
      simp only [number_least.j0] at H
      have HC6 := Aside0.mk H
      clear H
      go_upto_region 4 with (fail)
      go_cut [7] (fun v7 wc => ∃ (kq : Nat) (x7_5 : Bool), v7 = .bool x7_5 ∧ Aside0 (number_least.j1 kq x3_1 x7_5 l0_0 l0_1 a0_2 l0_3 l0_4 a0_5 a0_6 a0_7 a0_8 a0_9 a0_10 a0_11 a0_12 a0_13 a0_14 a0_15 a0_16 a0_17 a0_18 a0_19 = some r) ∧ Aside0 (kq ≤ kj1) ∧ Aside0 (wc.heap[gb102]? = some (.cells #[(.slice A0_0 l0_0.length c0_0), (.slice A0_1 l0_1.length c0_1), .bool a0_2, (.slice A0_3 l0_3.length c0_3), (.slice A0_4 l0_4.length c0_4), .int .i64 a0_5, .int .i64 a0_6, .int .i64 a0_7, .int .i64 a0_8, .int .i64 a0_9, .int .i64 a0_10, .int .i64 a0_11, .int .i64 a0_12, .string a0_13, .bool a0_14, .int .i64 a0_15, .bool a0_16, .int .i64 a0_17, .int .i32 a0_18, .int .i64 a0_19] 25 (0, 0))) ∧ Aside0 (Below w.heap.size w wc))
      case first =>
        have H := HC6.out
        clear HC6
        by_cases c7 : a0_14 = true
        · subst c7
          have H1 : (number_least.j1 kj1 x3_1 (a0_9 == 0) l0_0 l0_1 a0_2 l0_3 l0_4 a0_5 a0_6 a0_7 a0_8 a0_9 a0_10 a0_11 a0_12 a0_13 true a0_15 a0_16 a0_17 a0_18 a0_19) = some r := by rw [if_pos rfl] at H; exact H
          clear H
          have H := H1
          clear H1
          have H' := Aside0.mk H
          clear H
          have hcz8_0 : wc.cell? ⟨gb102, 0, none⟩ = some (.slice A0_0 l0_0.length c0_0) := (blk_cell BK102.out 0).trans rfl
          have hcz8_1 : wc.cell? ⟨gb102, 1, none⟩ = some (.slice A0_1 l0_1.length c0_1) := (blk_cell BK102.out 1).trans rfl
          have hcz8_2 : wc.cell? ⟨gb102, 2, none⟩ = some (.bool a0_2) := (blk_cell BK102.out 2).trans rfl
          have hcz8_3 : wc.cell? ⟨gb102, 3, none⟩ = some (.slice A0_3 l0_3.length c0_3) := (blk_cell BK102.out 3).trans rfl
          have hcz8_4 : wc.cell? ⟨gb102, 4, none⟩ = some (.slice A0_4 l0_4.length c0_4) := (blk_cell BK102.out 4).trans rfl
          have hcz8_5 : wc.cell? ⟨gb102, 5, none⟩ = some (.int .i64 a0_5) := (blk_cell BK102.out 5).trans rfl
          have hcz8_6 : wc.cell? ⟨gb102, 6, none⟩ = some (.int .i64 a0_6) := (blk_cell BK102.out 6).trans rfl
          have hcz8_7 : wc.cell? ⟨gb102, 7, none⟩ = some (.int .i64 a0_7) := (blk_cell BK102.out 7).trans rfl
          have hcz8_8 : wc.cell? ⟨gb102, 8, none⟩ = some (.int .i64 a0_8) := (blk_cell BK102.out 8).trans rfl
          have hcz8_9 : wc.cell? ⟨gb102, 9, none⟩ = some (.int .i64 a0_9) := (blk_cell BK102.out 9).trans rfl
          have hcz8_10 : wc.cell? ⟨gb102, 10, none⟩ = some (.int .i64 a0_10) := (blk_cell BK102.out 10).trans rfl
          have hcz8_11 : wc.cell? ⟨gb102, 11, none⟩ = some (.int .i64 a0_11) := (blk_cell BK102.out 11).trans rfl
          have hcz8_12 : wc.cell? ⟨gb102, 12, none⟩ = some (.int .i64 a0_12) := (blk_cell BK102.out 12).trans rfl
          have hcz8_13 : wc.cell? ⟨gb102, 13, none⟩ = some (.string a0_13) := (blk_cell BK102.out 13).trans rfl
          have hcz8_14 : wc.cell? ⟨gb102, 14, none⟩ = some (.bool true) := (blk_cell BK102.out 14).trans rfl
          have hcz8_15 : wc.cell? ⟨gb102, 15, none⟩ = some (.int .i64 a0_15) := (blk_cell BK102.out 15).trans rfl
          have hcz8_16 : wc.cell? ⟨gb102, 16, none⟩ = some (.bool a0_16) := (blk_cell BK102.out 16).trans rfl
          have hcz8_17 : wc.cell? ⟨gb102, 17, none⟩ = some (.int .i64 a0_17) := (blk_cell BK102.out 17).trans rfl
          have hcz8_18 : wc.cell? ⟨gb102, 18, none⟩ = some (.int .i32 a0_18) := (blk_cell BK102.out 18).trans rfl
          have hcz8_19 : wc.cell? ⟨gb102, 19, none⟩ = some (.int .i64 a0_19) := (blk_cell BK102.out 19).trans rfl
          have hfz8_0 := blk_frozen BK102.out 0
          have hfz8_1 := blk_frozen BK102.out 1
          have hfz8_2 := blk_frozen BK102.out 2
          have hfz8_3 := blk_frozen BK102.out 3
          have hfz8_4 := blk_frozen BK102.out 4
          have hfz8_5 := blk_frozen BK102.out 5
          have hfz8_6 := blk_frozen BK102.out 6
          have hfz8_7 := blk_frozen BK102.out 7
          have hfz8_8 := blk_frozen BK102.out 8
          have hfz8_9 := blk_frozen BK102.out 9
          have hfz8_10 := blk_frozen BK102.out 10
          have hfz8_11 := blk_frozen BK102.out 11
          have hfz8_12 := blk_frozen BK102.out 12
          have hfz8_13 := blk_frozen BK102.out 13
          have hfz8_14 := blk_frozen BK102.out 14
          have hfz8_15 := blk_frozen BK102.out 15
          have hfz8_16 := blk_frozen BK102.out 16
          have hfz8_17 := blk_frozen BK102.out 17
          have hfz8_18 := blk_frozen BK102.out 18
          have hfz8_19 := blk_frozen BK102.out 19
          go_wp2
          go_meet
          case rel => exact ⟨_, ((a0_9 == 0)), (by first | rfl | (simp; done) | (simp [*]; done) | (simp [bneNil_]; done)), H', ⟨by have := HJ1.out; first | omega | exact Nat.le_refl _⟩, ⟨by (with_reducible repeat (first | refine blk_drewN ?_ _ | refine blk_drew ?_ | refine blk_alloc ?_ _)); exact BK102.out⟩, ⟨by repeat (first | (with_reducible first | exact HB.out | apply below_alloc | apply pw_below_drewN | apply below_drew1 | refine below_set ?_ GE102.out) | exact HB.out)⟩⟩
        · replace c7 := Bool.eq_false_iff.mpr c7
          subst c7
          have H1 : (number_least.j1 kj1 x3_1 false l0_0 l0_1 a0_2 l0_3 l0_4 a0_5 a0_6 a0_7 a0_8 a0_9 a0_10 a0_11 a0_12 a0_13 false a0_15 a0_16 a0_17 a0_18 a0_19) = some r := by rw [if_neg (show ¬ (false = true) by decide)] at H; exact H
          clear H
          have H := H1
          clear H1
          have H' := Aside0.mk H
          clear H
          have hcz9_0 : wc.cell? ⟨gb102, 0, none⟩ = some (.slice A0_0 l0_0.length c0_0) := (blk_cell BK102.out 0).trans rfl
          have hcz9_1 : wc.cell? ⟨gb102, 1, none⟩ = some (.slice A0_1 l0_1.length c0_1) := (blk_cell BK102.out 1).trans rfl
          have hcz9_2 : wc.cell? ⟨gb102, 2, none⟩ = some (.bool a0_2) := (blk_cell BK102.out 2).trans rfl
          have hcz9_3 : wc.cell? ⟨gb102, 3, none⟩ = some (.slice A0_3 l0_3.length c0_3) := (blk_cell BK102.out 3).trans rfl
          have hcz9_4 : wc.cell? ⟨gb102, 4, none⟩ = some (.slice A0_4 l0_4.length c0_4) := (blk_cell BK102.out 4).trans rfl
          have hcz9_5 : wc.cell? ⟨gb102, 5, none⟩ = some (.int .i64 a0_5) := (blk_cell BK102.out 5).trans rfl
          have hcz9_6 : wc.cell? ⟨gb102, 6, none⟩ = some (.int .i64 a0_6) := (blk_cell BK102.out 6).trans rfl
          have hcz9_7 : wc.cell? ⟨gb102, 7, none⟩ = some (.int .i64 a0_7) := (blk_cell BK102.out 7).trans rfl
          have hcz9_8 : wc.cell? ⟨gb102, 8, none⟩ = some (.int .i64 a0_8) := (blk_cell BK102.out 8).trans rfl
          have hcz9_9 : wc.cell? ⟨gb102, 9, none⟩ = some (.int .i64 a0_9) := (blk_cell BK102.out 9).trans rfl
          have hcz9_10 : wc.cell? ⟨gb102, 10, none⟩ = some (.int .i64 a0_10) := (blk_cell BK102.out 10).trans rfl
          have hcz9_11 : wc.cell? ⟨gb102, 11, none⟩ = some (.int .i64 a0_11) := (blk_cell BK102.out 11).trans rfl
          have hcz9_12 : wc.cell? ⟨gb102, 12, none⟩ = some (.int .i64 a0_12) := (blk_cell BK102.out 12).trans rfl
          have hcz9_13 : wc.cell? ⟨gb102, 13, none⟩ = some (.string a0_13) := (blk_cell BK102.out 13).trans rfl
          have hcz9_14 : wc.cell? ⟨gb102, 14, none⟩ = some (.bool false) := (blk_cell BK102.out 14).trans rfl
          have hcz9_15 : wc.cell? ⟨gb102, 15, none⟩ = some (.int .i64 a0_15) := (blk_cell BK102.out 15).trans rfl
          have hcz9_16 : wc.cell? ⟨gb102, 16, none⟩ = some (.bool a0_16) := (blk_cell BK102.out 16).trans rfl
          have hcz9_17 : wc.cell? ⟨gb102, 17, none⟩ = some (.int .i64 a0_17) := (blk_cell BK102.out 17).trans rfl
          have hcz9_18 : wc.cell? ⟨gb102, 18, none⟩ = some (.int .i32 a0_18) := (blk_cell BK102.out 18).trans rfl
          have hcz9_19 : wc.cell? ⟨gb102, 19, none⟩ = some (.int .i64 a0_19) := (blk_cell BK102.out 19).trans rfl
          have hfz9_0 := blk_frozen BK102.out 0
          have hfz9_1 := blk_frozen BK102.out 1
          have hfz9_2 := blk_frozen BK102.out 2
          have hfz9_3 := blk_frozen BK102.out 3
          have hfz9_4 := blk_frozen BK102.out 4
          have hfz9_5 := blk_frozen BK102.out 5
          have hfz9_6 := blk_frozen BK102.out 6
          have hfz9_7 := blk_frozen BK102.out 7
          have hfz9_8 := blk_frozen BK102.out 8
          have hfz9_9 := blk_frozen BK102.out 9
          have hfz9_10 := blk_frozen BK102.out 10
          have hfz9_11 := blk_frozen BK102.out 11
          have hfz9_12 := blk_frozen BK102.out 12
          have hfz9_13 := blk_frozen BK102.out 13
          have hfz9_14 := blk_frozen BK102.out 14
          have hfz9_15 := blk_frozen BK102.out 15
          have hfz9_16 := blk_frozen BK102.out 16
          have hfz9_17 := blk_frozen BK102.out 17
          have hfz9_18 := blk_frozen BK102.out 18
          have hfz9_19 := blk_frozen BK102.out 19
          go_wp2
          go_meet
          case rel => exact ⟨_, (false), (by first | rfl | (simp; done) | (simp [*]; done) | (simp [bneNil_]; done)), H', ⟨by have := HJ1.out; first | omega | exact Nat.le_refl _⟩, ⟨by (with_reducible repeat (first | refine blk_drewN ?_ _ | refine blk_drew ?_ | refine blk_alloc ?_ _)); exact BK102.out⟩, ⟨by repeat (first | (with_reducible first | exact HB.out | apply below_alloc | apply pw_below_drewN | apply below_drew1 | refine below_set ?_ GE102.out) | exact HB.out)⟩⟩
      case rest =>
        clear HC6
        try clear c2
        try clear p2
        try clear c5
        try clear c5b0
        try clear c5b1
        try clear c7
        try clear hcz4_0
        try clear hcz4_1
        try clear hcz4_10
        try clear hcz4_11
        try clear hcz4_12
        try clear hcz4_13
        try clear hcz4_14
        try clear hcz4_15
        try clear hcz4_16
        try clear hcz4_17
        try clear hcz4_18
        try clear hcz4_19
        try clear hcz4_2
        try clear hcz4_3
        try clear hcz4_4
        try clear hcz4_5
        try clear hcz4_6
        try clear hcz4_7
        try clear hcz4_8
        try clear hcz4_9
        try clear hcz8_0
        try clear hcz8_1
        try clear hcz8_10
        try clear hcz8_11
        try clear hcz8_12
        try clear hcz8_13
        try clear hcz8_14
        try clear hcz8_15
        try clear hcz8_16
        try clear hcz8_17
        try clear hcz8_18
        try clear hcz8_19
        try clear hcz8_2
        try clear hcz8_3
        try clear hcz8_4
        try clear hcz8_5
        try clear hcz8_6
        try clear hcz8_7
        try clear hcz8_8
        try clear hcz8_9
        try clear hcz9_0
        try clear hcz9_1
        try clear hcz9_10
        try clear hcz9_11
        try clear hcz9_12
        try clear hcz9_13
        try clear hcz9_14
        try clear hcz9_15
        try clear hcz9_16
        try clear hcz9_17
        try clear hcz9_18
        try clear hcz9_19
        try clear hcz9_2
        try clear hcz9_3
        try clear hcz9_4
        try clear hcz9_5
        try clear hcz9_6
        try clear hcz9_7
        try clear hcz9_8
        try clear hcz9_9
        try clear hfz4_0
        try clear hfz4_1
        try clear hfz4_10
        try clear hfz4_11
        try clear hfz4_12
        try clear hfz4_13
        try clear hfz4_14
        try clear hfz4_15
        try clear hfz4_16
        try clear hfz4_17
        try clear hfz4_18
        try clear hfz4_19
        try clear hfz4_2
        try clear hfz4_3
        try clear hfz4_4
        try clear hfz4_5
        try clear hfz4_6
        try clear hfz4_7
        try clear hfz4_8
        try clear hfz4_9
        try clear hfz8_0
        try clear hfz8_1
        try clear hfz8_10
        try clear hfz8_11
        try clear hfz8_12
        try clear hfz8_13
        try clear hfz8_14
        try clear hfz8_15
        try clear hfz8_16
        try clear hfz8_17
        try clear hfz8_18
        try clear hfz8_19
        try clear hfz8_2
        try clear hfz8_3
        try clear hfz8_4
        try clear hfz8_5
        try clear hfz8_6
        try clear hfz8_7
        try clear hfz8_8
        try clear hfz8_9
        try clear hfz9_0
        try clear hfz9_1
        try clear hfz9_10
        try clear hfz9_11
        try clear hfz9_12
        try clear hfz9_13
        try clear hfz9_14
        try clear hfz9_15
        try clear hfz9_16
        try clear hfz9_17
        try clear hfz9_18
        try clear hfz9_19
        try clear hfz9_2
        try clear hfz9_3
        try clear hfz9_4
        try clear hfz9_5
        try clear hfz9_6
        try clear hfz9_7
        try clear hfz9_8
        try clear hfz9_9
        try clear p2
        obtain ⟨kq, x7_5, rfl, HA, HJ5, BK102, HB⟩ := hcut
        cases kq with
        | zero => exact absurd HA.out (by simp [number_least.j1])
        | succ kj5 =>
          have H := HA.out
          clear HA
          simp only [number_least.j1] at H
          by_cases c10 : x7_5 = true
          · subst c10
            have H1 : (some a0_6) = some r := by rw [if_pos rfl] at H; exact H
            clear H
            have H := H1
            clear H1
            obtain rfl := Option.some.inj H
            have hcz11_0 : wc.cell? ⟨gb102, 0, none⟩ = some (.slice A0_0 l0_0.length c0_0) := (blk_cell BK102.out 0).trans rfl
            have hcz11_1 : wc.cell? ⟨gb102, 1, none⟩ = some (.slice A0_1 l0_1.length c0_1) := (blk_cell BK102.out 1).trans rfl
            have hcz11_2 : wc.cell? ⟨gb102, 2, none⟩ = some (.bool a0_2) := (blk_cell BK102.out 2).trans rfl
            have hcz11_3 : wc.cell? ⟨gb102, 3, none⟩ = some (.slice A0_3 l0_3.length c0_3) := (blk_cell BK102.out 3).trans rfl
            have hcz11_4 : wc.cell? ⟨gb102, 4, none⟩ = some (.slice A0_4 l0_4.length c0_4) := (blk_cell BK102.out 4).trans rfl
            have hcz11_5 : wc.cell? ⟨gb102, 5, none⟩ = some (.int .i64 a0_5) := (blk_cell BK102.out 5).trans rfl
            have hcz11_6 : wc.cell? ⟨gb102, 6, none⟩ = some (.int .i64 a0_6) := (blk_cell BK102.out 6).trans rfl
            have hcz11_7 : wc.cell? ⟨gb102, 7, none⟩ = some (.int .i64 a0_7) := (blk_cell BK102.out 7).trans rfl
            have hcz11_8 : wc.cell? ⟨gb102, 8, none⟩ = some (.int .i64 a0_8) := (blk_cell BK102.out 8).trans rfl
            have hcz11_9 : wc.cell? ⟨gb102, 9, none⟩ = some (.int .i64 a0_9) := (blk_cell BK102.out 9).trans rfl
            have hcz11_10 : wc.cell? ⟨gb102, 10, none⟩ = some (.int .i64 a0_10) := (blk_cell BK102.out 10).trans rfl
            have hcz11_11 : wc.cell? ⟨gb102, 11, none⟩ = some (.int .i64 a0_11) := (blk_cell BK102.out 11).trans rfl
            have hcz11_12 : wc.cell? ⟨gb102, 12, none⟩ = some (.int .i64 a0_12) := (blk_cell BK102.out 12).trans rfl
            have hcz11_13 : wc.cell? ⟨gb102, 13, none⟩ = some (.string a0_13) := (blk_cell BK102.out 13).trans rfl
            have hcz11_14 : wc.cell? ⟨gb102, 14, none⟩ = some (.bool a0_14) := (blk_cell BK102.out 14).trans rfl
            have hcz11_15 : wc.cell? ⟨gb102, 15, none⟩ = some (.int .i64 a0_15) := (blk_cell BK102.out 15).trans rfl
            have hcz11_16 : wc.cell? ⟨gb102, 16, none⟩ = some (.bool a0_16) := (blk_cell BK102.out 16).trans rfl
            have hcz11_17 : wc.cell? ⟨gb102, 17, none⟩ = some (.int .i64 a0_17) := (blk_cell BK102.out 17).trans rfl
            have hcz11_18 : wc.cell? ⟨gb102, 18, none⟩ = some (.int .i32 a0_18) := (blk_cell BK102.out 18).trans rfl
            have hcz11_19 : wc.cell? ⟨gb102, 19, none⟩ = some (.int .i64 a0_19) := (blk_cell BK102.out 19).trans rfl
            have hfz11_0 := blk_frozen BK102.out 0
            have hfz11_1 := blk_frozen BK102.out 1
            have hfz11_2 := blk_frozen BK102.out 2
            have hfz11_3 := blk_frozen BK102.out 3
            have hfz11_4 := blk_frozen BK102.out 4
            have hfz11_5 := blk_frozen BK102.out 5
            have hfz11_6 := blk_frozen BK102.out 6
            have hfz11_7 := blk_frozen BK102.out 7
            have hfz11_8 := blk_frozen BK102.out 8
            have hfz11_9 := blk_frozen BK102.out 9
            have hfz11_10 := blk_frozen BK102.out 10
            have hfz11_11 := blk_frozen BK102.out 11
            have hfz11_12 := blk_frozen BK102.out 12
            have hfz11_13 := blk_frozen BK102.out 13
            have hfz11_14 := blk_frozen BK102.out 14
            have hfz11_15 := blk_frozen BK102.out 15
            have hfz11_16 := blk_frozen BK102.out 16
            have hfz11_17 := blk_frozen BK102.out 17
            have hfz11_18 := blk_frozen BK102.out 18
            have hfz11_19 := blk_frozen BK102.out 19
            go_wp2
            go_ret
            exact ⟨by first | rfl | (simp [errW_none, errW_some] <;> rfl) | (simp [*, errW_none, errW_some] <;> rfl), by repeat (first | (with_reducible first | exact HB.out | apply below_alloc | apply pw_below_drewN | apply below_drew1 | refine below_set ?_ GE102.out) | exact HB.out)⟩
          · replace c10 := Bool.eq_false_iff.mpr c10
            subst c10
            have H1 : (if a0_11 > 0 then (number_least.j2 kj5 x3_1 (a0_12 != a0_11) l0_0 l0_1 a0_2 l0_3 l0_4 a0_5 a0_6 a0_7 a0_8 a0_9 a0_10 a0_11 a0_12 a0_13 a0_14 a0_15 a0_16 a0_17 a0_18 a0_19) else (number_least.j2 kj5 x3_1 false l0_0 l0_1 a0_2 l0_3 l0_4 a0_5 a0_6 a0_7 a0_8 a0_9 a0_10 a0_11 a0_12 a0_13 a0_14 a0_15 a0_16 a0_17 a0_18 a0_19)) = some r := by rw [if_neg (show ¬ (false = true) by decide)] at H; exact H
            clear H
            have H := H1
            clear H1
            have HC12 := Aside0.mk H
            clear H
            go_upto_region 6 with (fail)
            go_cut [17] (fun v17 wc => ∃ (kq : Nat) (x17_11 : Bool), v17 = .bool x17_11 ∧ Aside0 (number_least.j2 kq x3_1 x17_11 l0_0 l0_1 a0_2 l0_3 l0_4 a0_5 a0_6 a0_7 a0_8 a0_9 a0_10 a0_11 a0_12 a0_13 a0_14 a0_15 a0_16 a0_17 a0_18 a0_19 = some r) ∧ Aside0 (kq ≤ kj5) ∧ Aside0 (wc.heap[gb102]? = some (.cells #[(.slice A0_0 l0_0.length c0_0), (.slice A0_1 l0_1.length c0_1), .bool a0_2, (.slice A0_3 l0_3.length c0_3), (.slice A0_4 l0_4.length c0_4), .int .i64 a0_5, .int .i64 a0_6, .int .i64 a0_7, .int .i64 a0_8, .int .i64 a0_9, .int .i64 a0_10, .int .i64 a0_11, .int .i64 a0_12, .string a0_13, .bool a0_14, .int .i64 a0_15, .bool a0_16, .int .i64 a0_17, .int .i32 a0_18, .int .i64 a0_19] 25 (0, 0))) ∧ Aside0 (Below w.heap.size w wc))
            case first =>
              have H := HC12.out
              clear HC12
              by_cases c13 : a0_11 > 0
              · rw [if_pos c13] at H
                have c13b0 : decide (0 < a0_11) = true := decide_eq_true c13
                clear c13
                (first | rw [c13b0] | (simp only [i64_w, i32_w]; rw [c13b0]) | skip)
                have H' := Aside0.mk H
                clear H
                have hcz14_0 : wc.cell? ⟨gb102, 0, none⟩ = some (.slice A0_0 l0_0.length c0_0) := (blk_cell BK102.out 0).trans rfl
                have hcz14_1 : wc.cell? ⟨gb102, 1, none⟩ = some (.slice A0_1 l0_1.length c0_1) := (blk_cell BK102.out 1).trans rfl
                have hcz14_2 : wc.cell? ⟨gb102, 2, none⟩ = some (.bool a0_2) := (blk_cell BK102.out 2).trans rfl
                have hcz14_3 : wc.cell? ⟨gb102, 3, none⟩ = some (.slice A0_3 l0_3.length c0_3) := (blk_cell BK102.out 3).trans rfl
                have hcz14_4 : wc.cell? ⟨gb102, 4, none⟩ = some (.slice A0_4 l0_4.length c0_4) := (blk_cell BK102.out 4).trans rfl
                have hcz14_5 : wc.cell? ⟨gb102, 5, none⟩ = some (.int .i64 a0_5) := (blk_cell BK102.out 5).trans rfl
                have hcz14_6 : wc.cell? ⟨gb102, 6, none⟩ = some (.int .i64 a0_6) := (blk_cell BK102.out 6).trans rfl
                have hcz14_7 : wc.cell? ⟨gb102, 7, none⟩ = some (.int .i64 a0_7) := (blk_cell BK102.out 7).trans rfl
                have hcz14_8 : wc.cell? ⟨gb102, 8, none⟩ = some (.int .i64 a0_8) := (blk_cell BK102.out 8).trans rfl
                have hcz14_9 : wc.cell? ⟨gb102, 9, none⟩ = some (.int .i64 a0_9) := (blk_cell BK102.out 9).trans rfl
                have hcz14_10 : wc.cell? ⟨gb102, 10, none⟩ = some (.int .i64 a0_10) := (blk_cell BK102.out 10).trans rfl
                have hcz14_11 : wc.cell? ⟨gb102, 11, none⟩ = some (.int .i64 a0_11) := (blk_cell BK102.out 11).trans rfl
                have hcz14_12 : wc.cell? ⟨gb102, 12, none⟩ = some (.int .i64 a0_12) := (blk_cell BK102.out 12).trans rfl
                have hcz14_13 : wc.cell? ⟨gb102, 13, none⟩ = some (.string a0_13) := (blk_cell BK102.out 13).trans rfl
                have hcz14_14 : wc.cell? ⟨gb102, 14, none⟩ = some (.bool a0_14) := (blk_cell BK102.out 14).trans rfl
                have hcz14_15 : wc.cell? ⟨gb102, 15, none⟩ = some (.int .i64 a0_15) := (blk_cell BK102.out 15).trans rfl
                have hcz14_16 : wc.cell? ⟨gb102, 16, none⟩ = some (.bool a0_16) := (blk_cell BK102.out 16).trans rfl
                have hcz14_17 : wc.cell? ⟨gb102, 17, none⟩ = some (.int .i64 a0_17) := (blk_cell BK102.out 17).trans rfl
                have hcz14_18 : wc.cell? ⟨gb102, 18, none⟩ = some (.int .i32 a0_18) := (blk_cell BK102.out 18).trans rfl
                have hcz14_19 : wc.cell? ⟨gb102, 19, none⟩ = some (.int .i64 a0_19) := (blk_cell BK102.out 19).trans rfl
                have hfz14_0 := blk_frozen BK102.out 0
                have hfz14_1 := blk_frozen BK102.out 1
                have hfz14_2 := blk_frozen BK102.out 2
                have hfz14_3 := blk_frozen BK102.out 3
                have hfz14_4 := blk_frozen BK102.out 4
                have hfz14_5 := blk_frozen BK102.out 5
                have hfz14_6 := blk_frozen BK102.out 6
                have hfz14_7 := blk_frozen BK102.out 7
                have hfz14_8 := blk_frozen BK102.out 8
                have hfz14_9 := blk_frozen BK102.out 9
                have hfz14_10 := blk_frozen BK102.out 10
                have hfz14_11 := blk_frozen BK102.out 11
                have hfz14_12 := blk_frozen BK102.out 12
                have hfz14_13 := blk_frozen BK102.out 13
                have hfz14_14 := blk_frozen BK102.out 14
                have hfz14_15 := blk_frozen BK102.out 15
                have hfz14_16 := blk_frozen BK102.out 16
                have hfz14_17 := blk_frozen BK102.out 17
                have hfz14_18 := blk_frozen BK102.out 18
                have hfz14_19 := blk_frozen BK102.out 19
                go_wp2
                go_meet
                case rel => exact ⟨_, ((a0_12 != a0_11)), (by first | rfl | (simp; done) | (simp [*]; done) | (simp [bneNil_]; done)), H', ⟨by have := HJ1.out; have := HJ5.out; first | omega | exact Nat.le_refl _⟩, ⟨by (with_reducible repeat (first | refine blk_drewN ?_ _ | refine blk_drew ?_ | refine blk_alloc ?_ _)); exact BK102.out⟩, ⟨by repeat (first | (with_reducible first | exact HB.out | apply below_alloc | apply pw_below_drewN | apply below_drew1 | refine below_set ?_ GE102.out) | exact HB.out)⟩⟩
              · rw [if_neg c13] at H
                have c13b0 : decide (0 < a0_11) = false := decide_eq_false c13
                clear c13
                (first | rw [c13b0] | (simp only [i64_w, i32_w]; rw [c13b0]) | skip)
                have H' := Aside0.mk H
                clear H
                have hcz15_0 : wc.cell? ⟨gb102, 0, none⟩ = some (.slice A0_0 l0_0.length c0_0) := (blk_cell BK102.out 0).trans rfl
                have hcz15_1 : wc.cell? ⟨gb102, 1, none⟩ = some (.slice A0_1 l0_1.length c0_1) := (blk_cell BK102.out 1).trans rfl
                have hcz15_2 : wc.cell? ⟨gb102, 2, none⟩ = some (.bool a0_2) := (blk_cell BK102.out 2).trans rfl
                have hcz15_3 : wc.cell? ⟨gb102, 3, none⟩ = some (.slice A0_3 l0_3.length c0_3) := (blk_cell BK102.out 3).trans rfl
                have hcz15_4 : wc.cell? ⟨gb102, 4, none⟩ = some (.slice A0_4 l0_4.length c0_4) := (blk_cell BK102.out 4).trans rfl
                have hcz15_5 : wc.cell? ⟨gb102, 5, none⟩ = some (.int .i64 a0_5) := (blk_cell BK102.out 5).trans rfl
                have hcz15_6 : wc.cell? ⟨gb102, 6, none⟩ = some (.int .i64 a0_6) := (blk_cell BK102.out 6).trans rfl
                have hcz15_7 : wc.cell? ⟨gb102, 7, none⟩ = some (.int .i64 a0_7) := (blk_cell BK102.out 7).trans rfl
                have hcz15_8 : wc.cell? ⟨gb102, 8, none⟩ = some (.int .i64 a0_8) := (blk_cell BK102.out 8).trans rfl
                have hcz15_9 : wc.cell? ⟨gb102, 9, none⟩ = some (.int .i64 a0_9) := (blk_cell BK102.out 9).trans rfl
                have hcz15_10 : wc.cell? ⟨gb102, 10, none⟩ = some (.int .i64 a0_10) := (blk_cell BK102.out 10).trans rfl
                have hcz15_11 : wc.cell? ⟨gb102, 11, none⟩ = some (.int .i64 a0_11) := (blk_cell BK102.out 11).trans rfl
                have hcz15_12 : wc.cell? ⟨gb102, 12, none⟩ = some (.int .i64 a0_12) := (blk_cell BK102.out 12).trans rfl
                have hcz15_13 : wc.cell? ⟨gb102, 13, none⟩ = some (.string a0_13) := (blk_cell BK102.out 13).trans rfl
                have hcz15_14 : wc.cell? ⟨gb102, 14, none⟩ = some (.bool a0_14) := (blk_cell BK102.out 14).trans rfl
                have hcz15_15 : wc.cell? ⟨gb102, 15, none⟩ = some (.int .i64 a0_15) := (blk_cell BK102.out 15).trans rfl
                have hcz15_16 : wc.cell? ⟨gb102, 16, none⟩ = some (.bool a0_16) := (blk_cell BK102.out 16).trans rfl
                have hcz15_17 : wc.cell? ⟨gb102, 17, none⟩ = some (.int .i64 a0_17) := (blk_cell BK102.out 17).trans rfl
                have hcz15_18 : wc.cell? ⟨gb102, 18, none⟩ = some (.int .i32 a0_18) := (blk_cell BK102.out 18).trans rfl
                have hcz15_19 : wc.cell? ⟨gb102, 19, none⟩ = some (.int .i64 a0_19) := (blk_cell BK102.out 19).trans rfl
                have hfz15_0 := blk_frozen BK102.out 0
                have hfz15_1 := blk_frozen BK102.out 1
                have hfz15_2 := blk_frozen BK102.out 2
                have hfz15_3 := blk_frozen BK102.out 3
                have hfz15_4 := blk_frozen BK102.out 4
                have hfz15_5 := blk_frozen BK102.out 5
                have hfz15_6 := blk_frozen BK102.out 6
                have hfz15_7 := blk_frozen BK102.out 7
                have hfz15_8 := blk_frozen BK102.out 8
                have hfz15_9 := blk_frozen BK102.out 9
                have hfz15_10 := blk_frozen BK102.out 10
                have hfz15_11 := blk_frozen BK102.out 11
                have hfz15_12 := blk_frozen BK102.out 12
                have hfz15_13 := blk_frozen BK102.out 13
                have hfz15_14 := blk_frozen BK102.out 14
                have hfz15_15 := blk_frozen BK102.out 15
                have hfz15_16 := blk_frozen BK102.out 16
                have hfz15_17 := blk_frozen BK102.out 17
                have hfz15_18 := blk_frozen BK102.out 18
                have hfz15_19 := blk_frozen BK102.out 19
                go_wp2
                go_meet
                case rel => exact ⟨_, (false), (by first | rfl | (simp; done) | (simp [*]; done) | (simp [bneNil_]; done)), H', ⟨by have := HJ1.out; have := HJ5.out; first | omega | exact Nat.le_refl _⟩, ⟨by (with_reducible repeat (first | refine blk_drewN ?_ _ | refine blk_drew ?_ | refine blk_alloc ?_ _)); exact BK102.out⟩, ⟨by repeat (first | (with_reducible first | exact HB.out | apply below_alloc | apply pw_below_drewN | apply below_drew1 | refine below_set ?_ GE102.out) | exact HB.out)⟩⟩
            case rest =>
              clear HC12
              try clear c1
              try clear c2
              try clear p2
              try clear c5
              try clear c5b0
              try clear c5b1
              try clear c7
              try clear c10
              try clear c13
              try clear c13b0
              try clear hcz11_0
              try clear hcz11_1
              try clear hcz11_10
              try clear hcz11_11
              try clear hcz11_12
              try clear hcz11_13
              try clear hcz11_14
              try clear hcz11_15
              try clear hcz11_16
              try clear hcz11_17
              try clear hcz11_18
              try clear hcz11_19
              try clear hcz11_2
              try clear hcz11_3
              try clear hcz11_4
              try clear hcz11_5
              try clear hcz11_6
              try clear hcz11_7
              try clear hcz11_8
              try clear hcz11_9
              try clear hcz14_0
              try clear hcz14_1
              try clear hcz14_10
              try clear hcz14_11
              try clear hcz14_12
              try clear hcz14_13
              try clear hcz14_14
              try clear hcz14_15
              try clear hcz14_16
              try clear hcz14_17
              try clear hcz14_18
              try clear hcz14_19
              try clear hcz14_2
              try clear hcz14_3
              try clear hcz14_4
              try clear hcz14_5
              try clear hcz14_6
              try clear hcz14_7
              try clear hcz14_8
              try clear hcz14_9
              try clear hcz15_0
              try clear hcz15_1
              try clear hcz15_10
              try clear hcz15_11
              try clear hcz15_12
              try clear hcz15_13
              try clear hcz15_14
              try clear hcz15_15
              try clear hcz15_16
              try clear hcz15_17
              try clear hcz15_18
              try clear hcz15_19
              try clear hcz15_2
              try clear hcz15_3
              try clear hcz15_4
              try clear hcz15_5
              try clear hcz15_6
              try clear hcz15_7
              try clear hcz15_8
              try clear hcz15_9
              try clear hcz4_0
              try clear hcz4_1
              try clear hcz4_10
              try clear hcz4_11
              try clear hcz4_12
              try clear hcz4_13
              try clear hcz4_14
              try clear hcz4_15
              try clear hcz4_16
              try clear hcz4_17
              try clear hcz4_18
              try clear hcz4_19
              try clear hcz4_2
              try clear hcz4_3
              try clear hcz4_4
              try clear hcz4_5
              try clear hcz4_6
              try clear hcz4_7
              try clear hcz4_8
              try clear hcz4_9
              try clear hcz8_0
              try clear hcz8_1
              try clear hcz8_10
              try clear hcz8_11
              try clear hcz8_12
              try clear hcz8_13
              try clear hcz8_14
              try clear hcz8_15
              try clear hcz8_16
              try clear hcz8_17
              try clear hcz8_18
              try clear hcz8_19
              try clear hcz8_2
              try clear hcz8_3
              try clear hcz8_4
              try clear hcz8_5
              try clear hcz8_6
              try clear hcz8_7
              try clear hcz8_8
              try clear hcz8_9
              try clear hcz9_0
              try clear hcz9_1
              try clear hcz9_10
              try clear hcz9_11
              try clear hcz9_12
              try clear hcz9_13
              try clear hcz9_14
              try clear hcz9_15
              try clear hcz9_16
              try clear hcz9_17
              try clear hcz9_18
              try clear hcz9_19
              try clear hcz9_2
              try clear hcz9_3
              try clear hcz9_4
              try clear hcz9_5
              try clear hcz9_6
              try clear hcz9_7
              try clear hcz9_8
              try clear hcz9_9
              try clear hfz11_0
              try clear hfz11_1
              try clear hfz11_10
              try clear hfz11_11
              try clear hfz11_12
              try clear hfz11_13
              try clear hfz11_14
              try clear hfz11_15
              try clear hfz11_16
              try clear hfz11_17
              try clear hfz11_18
              try clear hfz11_19
              try clear hfz11_2
              try clear hfz11_3
              try clear hfz11_4
              try clear hfz11_5
              try clear hfz11_6
              try clear hfz11_7
              try clear hfz11_8
              try clear hfz11_9
              try clear hfz14_0
              try clear hfz14_1
              try clear hfz14_10
              try clear hfz14_11
              try clear hfz14_12
              try clear hfz14_13
              try clear hfz14_14
              try clear hfz14_15
              try clear hfz14_16
              try clear hfz14_17
              try clear hfz14_18
              try clear hfz14_19
              try clear hfz14_2
              try clear hfz14_3
              try clear hfz14_4
              try clear hfz14_5
              try clear hfz14_6
              try clear hfz14_7
              try clear hfz14_8
              try clear hfz14_9
              try clear hfz15_0
              try clear hfz15_1
              try clear hfz15_10
              try clear hfz15_11
              try clear hfz15_12
              try clear hfz15_13
              try clear hfz15_14
              try clear hfz15_15
              try clear hfz15_16
              try clear hfz15_17
              try clear hfz15_18
              try clear hfz15_19
              try clear hfz15_2
              try clear hfz15_3
              try clear hfz15_4
              try clear hfz15_5
              try clear hfz15_6
              try clear hfz15_7
              try clear hfz15_8
              try clear hfz15_9
              try clear hfz4_0
              try clear hfz4_1
              try clear hfz4_10
              try clear hfz4_11
              try clear hfz4_12
              try clear hfz4_13
              try clear hfz4_14
              try clear hfz4_15
              try clear hfz4_16
              try clear hfz4_17
              try clear hfz4_18
              try clear hfz4_19
              try clear hfz4_2
              try clear hfz4_3
              try clear hfz4_4
              try clear hfz4_5
              try clear hfz4_6
              try clear hfz4_7
              try clear hfz4_8
              try clear hfz4_9
              try clear hfz8_0
              try clear hfz8_1
              try clear hfz8_10
              try clear hfz8_11
              try clear hfz8_12
              try clear hfz8_13
              try clear hfz8_14
              try clear hfz8_15
              try clear hfz8_16
              try clear hfz8_17
              try clear hfz8_18
              try clear hfz8_19
              try clear hfz8_2
              try clear hfz8_3
              try clear hfz8_4
              try clear hfz8_5
              try clear hfz8_6
              try clear hfz8_7
              try clear hfz8_8
              try clear hfz8_9
              try clear hfz9_0
              try clear hfz9_1
              try clear hfz9_10
              try clear hfz9_11
              try clear hfz9_12
              try clear hfz9_13
              try clear hfz9_14
              try clear hfz9_15
              try clear hfz9_16
              try clear hfz9_17
              try clear hfz9_18
              try clear hfz9_19
              try clear hfz9_2
              try clear hfz9_3
              try clear hfz9_4
              try clear hfz9_5
              try clear hfz9_6
              try clear hfz9_7
              try clear hfz9_8
              try clear hfz9_9
              try clear p2
              obtain ⟨kq, x17_11, rfl, HA, HJ11, BK102, HB⟩ := hcut
              cases kq with
              | zero => exact absurd HA.out (by simp [number_least.j2])
              | succ kj11 =>
                have H := HA.out
                clear HA
                simp only [number_least.j2] at H
                by_cases c16 : x17_11 = true
                · subst c16
                  have H1 : (some (wrap64 ((wrap64 (a0_11 + a0_12)) + 1))) = some r := by rw [if_pos rfl] at H; exact H
                  clear H
                  have H := H1
                  clear H1
                  obtain rfl := Option.some.inj H
                  have hcz17_0 : wc.cell? ⟨gb102, 0, none⟩ = some (.slice A0_0 l0_0.length c0_0) := (blk_cell BK102.out 0).trans rfl
                  have hcz17_1 : wc.cell? ⟨gb102, 1, none⟩ = some (.slice A0_1 l0_1.length c0_1) := (blk_cell BK102.out 1).trans rfl
                  have hcz17_2 : wc.cell? ⟨gb102, 2, none⟩ = some (.bool a0_2) := (blk_cell BK102.out 2).trans rfl
                  have hcz17_3 : wc.cell? ⟨gb102, 3, none⟩ = some (.slice A0_3 l0_3.length c0_3) := (blk_cell BK102.out 3).trans rfl
                  have hcz17_4 : wc.cell? ⟨gb102, 4, none⟩ = some (.slice A0_4 l0_4.length c0_4) := (blk_cell BK102.out 4).trans rfl
                  have hcz17_5 : wc.cell? ⟨gb102, 5, none⟩ = some (.int .i64 a0_5) := (blk_cell BK102.out 5).trans rfl
                  have hcz17_6 : wc.cell? ⟨gb102, 6, none⟩ = some (.int .i64 a0_6) := (blk_cell BK102.out 6).trans rfl
                  have hcz17_7 : wc.cell? ⟨gb102, 7, none⟩ = some (.int .i64 a0_7) := (blk_cell BK102.out 7).trans rfl
                  have hcz17_8 : wc.cell? ⟨gb102, 8, none⟩ = some (.int .i64 a0_8) := (blk_cell BK102.out 8).trans rfl
                  have hcz17_9 : wc.cell? ⟨gb102, 9, none⟩ = some (.int .i64 a0_9) := (blk_cell BK102.out 9).trans rfl
                  have hcz17_10 : wc.cell? ⟨gb102, 10, none⟩ = some (.int .i64 a0_10) := (blk_cell BK102.out 10).trans rfl
                  have hcz17_11 : wc.cell? ⟨gb102, 11, none⟩ = some (.int .i64 a0_11) := (blk_cell BK102.out 11).trans rfl
                  have hcz17_12 : wc.cell? ⟨gb102, 12, none⟩ = some (.int .i64 a0_12) := (blk_cell BK102.out 12).trans rfl
                  have hcz17_13 : wc.cell? ⟨gb102, 13, none⟩ = some (.string a0_13) := (blk_cell BK102.out 13).trans rfl
                  have hcz17_14 : wc.cell? ⟨gb102, 14, none⟩ = some (.bool a0_14) := (blk_cell BK102.out 14).trans rfl
                  have hcz17_15 : wc.cell? ⟨gb102, 15, none⟩ = some (.int .i64 a0_15) := (blk_cell BK102.out 15).trans rfl
                  have hcz17_16 : wc.cell? ⟨gb102, 16, none⟩ = some (.bool a0_16) := (blk_cell BK102.out 16).trans rfl
                  have hcz17_17 : wc.cell? ⟨gb102, 17, none⟩ = some (.int .i64 a0_17) := (blk_cell BK102.out 17).trans rfl
                  have hcz17_18 : wc.cell? ⟨gb102, 18, none⟩ = some (.int .i32 a0_18) := (blk_cell BK102.out 18).trans rfl
                  have hcz17_19 : wc.cell? ⟨gb102, 19, none⟩ = some (.int .i64 a0_19) := (blk_cell BK102.out 19).trans rfl
                  have hfz17_0 := blk_frozen BK102.out 0
                  have hfz17_1 := blk_frozen BK102.out 1
                  have hfz17_2 := blk_frozen BK102.out 2
                  have hfz17_3 := blk_frozen BK102.out 3
                  have hfz17_4 := blk_frozen BK102.out 4
                  have hfz17_5 := blk_frozen BK102.out 5
                  have hfz17_6 := blk_frozen BK102.out 6
                  have hfz17_7 := blk_frozen BK102.out 7
                  have hfz17_8 := blk_frozen BK102.out 8
                  have hfz17_9 := blk_frozen BK102.out 9
                  have hfz17_10 := blk_frozen BK102.out 10
                  have hfz17_11 := blk_frozen BK102.out 11
                  have hfz17_12 := blk_frozen BK102.out 12
                  have hfz17_13 := blk_frozen BK102.out 13
                  have hfz17_14 := blk_frozen BK102.out 14
                  have hfz17_15 := blk_frozen BK102.out 15
                  have hfz17_16 := blk_frozen BK102.out 16
                  have hfz17_17 := blk_frozen BK102.out 17
                  have hfz17_18 := blk_frozen BK102.out 18
                  have hfz17_19 := blk_frozen BK102.out 19
                  go_wp2
                  go_ret
                  exact ⟨by first | rfl | (simp [errW_none, errW_some] <;> rfl) | (simp [*, errW_none, errW_some] <;> rfl), by repeat (first | (with_reducible first | exact HB.out | apply below_alloc | apply pw_below_drewN | apply below_drew1 | refine below_set ?_ GE102.out) | exact HB.out)⟩
                · replace c16 := Bool.eq_false_iff.mpr c16
                  subst c16
                  have H1 : (if a0_11 > 0 then (some (wrap64 (a0_11 + 1))) else (some x3_1)) = some r := by rw [if_neg (show ¬ (false = true) by decide)] at H; exact H
                  clear H
                  have H := H1
                  clear H1
                  by_cases c18 : a0_11 > 0
                  · rw [if_pos c18] at H
                    have c18b0 : decide (0 < a0_11) = true := decide_eq_true c18
                    clear c18
                    obtain rfl := Option.some.inj H
                    have hcz19_0 : wc.cell? ⟨gb102, 0, none⟩ = some (.slice A0_0 l0_0.length c0_0) := (blk_cell BK102.out 0).trans rfl
                    have hcz19_1 : wc.cell? ⟨gb102, 1, none⟩ = some (.slice A0_1 l0_1.length c0_1) := (blk_cell BK102.out 1).trans rfl
                    have hcz19_2 : wc.cell? ⟨gb102, 2, none⟩ = some (.bool a0_2) := (blk_cell BK102.out 2).trans rfl
                    have hcz19_3 : wc.cell? ⟨gb102, 3, none⟩ = some (.slice A0_3 l0_3.length c0_3) := (blk_cell BK102.out 3).trans rfl
                    have hcz19_4 : wc.cell? ⟨gb102, 4, none⟩ = some (.slice A0_4 l0_4.length c0_4) := (blk_cell BK102.out 4).trans rfl
                    have hcz19_5 : wc.cell? ⟨gb102, 5, none⟩ = some (.int .i64 a0_5) := (blk_cell BK102.out 5).trans rfl
                    have hcz19_6 : wc.cell? ⟨gb102, 6, none⟩ = some (.int .i64 a0_6) := (blk_cell BK102.out 6).trans rfl
                    have hcz19_7 : wc.cell? ⟨gb102, 7, none⟩ = some (.int .i64 a0_7) := (blk_cell BK102.out 7).trans rfl
                    have hcz19_8 : wc.cell? ⟨gb102, 8, none⟩ = some (.int .i64 a0_8) := (blk_cell BK102.out 8).trans rfl
                    have hcz19_9 : wc.cell? ⟨gb102, 9, none⟩ = some (.int .i64 a0_9) := (blk_cell BK102.out 9).trans rfl
                    have hcz19_10 : wc.cell? ⟨gb102, 10, none⟩ = some (.int .i64 a0_10) := (blk_cell BK102.out 10).trans rfl
                    have hcz19_11 : wc.cell? ⟨gb102, 11, none⟩ = some (.int .i64 a0_11) := (blk_cell BK102.out 11).trans rfl
                    have hcz19_12 : wc.cell? ⟨gb102, 12, none⟩ = some (.int .i64 a0_12) := (blk_cell BK102.out 12).trans rfl
                    have hcz19_13 : wc.cell? ⟨gb102, 13, none⟩ = some (.string a0_13) := (blk_cell BK102.out 13).trans rfl
                    have hcz19_14 : wc.cell? ⟨gb102, 14, none⟩ = some (.bool a0_14) := (blk_cell BK102.out 14).trans rfl
                    have hcz19_15 : wc.cell? ⟨gb102, 15, none⟩ = some (.int .i64 a0_15) := (blk_cell BK102.out 15).trans rfl
                    have hcz19_16 : wc.cell? ⟨gb102, 16, none⟩ = some (.bool a0_16) := (blk_cell BK102.out 16).trans rfl
                    have hcz19_17 : wc.cell? ⟨gb102, 17, none⟩ = some (.int .i64 a0_17) := (blk_cell BK102.out 17).trans rfl
                    have hcz19_18 : wc.cell? ⟨gb102, 18, none⟩ = some (.int .i32 a0_18) := (blk_cell BK102.out 18).trans rfl
                    have hcz19_19 : wc.cell? ⟨gb102, 19, none⟩ = some (.int .i64 a0_19) := (blk_cell BK102.out 19).trans rfl
                    have hfz19_0 := blk_frozen BK102.out 0
                    have hfz19_1 := blk_frozen BK102.out 1
                    have hfz19_2 := blk_frozen BK102.out 2
                    have hfz19_3 := blk_frozen BK102.out 3
                    have hfz19_4 := blk_frozen BK102.out 4
                    have hfz19_5 := blk_frozen BK102.out 5
                    have hfz19_6 := blk_frozen BK102.out 6
                    have hfz19_7 := blk_frozen BK102.out 7
                    have hfz19_8 := blk_frozen BK102.out 8
                    have hfz19_9 := blk_frozen BK102.out 9
                    have hfz19_10 := blk_frozen BK102.out 10
                    have hfz19_11 := blk_frozen BK102.out 11
                    have hfz19_12 := blk_frozen BK102.out 12
                    have hfz19_13 := blk_frozen BK102.out 13
                    have hfz19_14 := blk_frozen BK102.out 14
                    have hfz19_15 := blk_frozen BK102.out 15
                    have hfz19_16 := blk_frozen BK102.out 16
                    have hfz19_17 := blk_frozen BK102.out 17
                    have hfz19_18 := blk_frozen BK102.out 18
                    have hfz19_19 := blk_frozen BK102.out 19
                    go_wp2
                    go_ret
                    exact ⟨by first | rfl | (simp [errW_none, errW_some] <;> rfl) | (simp [*, errW_none, errW_some] <;> rfl), by repeat (first | (with_reducible first | exact HB.out | apply below_alloc | apply pw_below_drewN | apply below_drew1 | refine below_set ?_ GE102.out) | exact HB.out)⟩
                  · rw [if_neg c18] at H
                    have c18b0 : decide (0 < a0_11) = false := decide_eq_false c18
                    clear c18
                    obtain rfl := Option.some.inj H
                    have hcz20_0 : wc.cell? ⟨gb102, 0, none⟩ = some (.slice A0_0 l0_0.length c0_0) := (blk_cell BK102.out 0).trans rfl
                    have hcz20_1 : wc.cell? ⟨gb102, 1, none⟩ = some (.slice A0_1 l0_1.length c0_1) := (blk_cell BK102.out 1).trans rfl
                    have hcz20_2 : wc.cell? ⟨gb102, 2, none⟩ = some (.bool a0_2) := (blk_cell BK102.out 2).trans rfl
                    have hcz20_3 : wc.cell? ⟨gb102, 3, none⟩ = some (.slice A0_3 l0_3.length c0_3) := (blk_cell BK102.out 3).trans rfl
                    have hcz20_4 : wc.cell? ⟨gb102, 4, none⟩ = some (.slice A0_4 l0_4.length c0_4) := (blk_cell BK102.out 4).trans rfl
                    have hcz20_5 : wc.cell? ⟨gb102, 5, none⟩ = some (.int .i64 a0_5) := (blk_cell BK102.out 5).trans rfl
                    have hcz20_6 : wc.cell? ⟨gb102, 6, none⟩ = some (.int .i64 a0_6) := (blk_cell BK102.out 6).trans rfl
                    have hcz20_7 : wc.cell? ⟨gb102, 7, none⟩ = some (.int .i64 a0_7) := (blk_cell BK102.out 7).trans rfl
                    have hcz20_8 : wc.cell? ⟨gb102, 8, none⟩ = some (.int .i64 a0_8) := (blk_cell BK102.out 8).trans rfl
                    have hcz20_9 : wc.cell? ⟨gb102, 9, none⟩ = some (.int .i64 a0_9) := (blk_cell BK102.out 9).trans rfl
                    have hcz20_10 : wc.cell? ⟨gb102, 10, none⟩ = some (.int .i64 a0_10) := (blk_cell BK102.out 10).trans rfl
                    have hcz20_11 : wc.cell? ⟨gb102, 11, none⟩ = some (.int .i64 a0_11) := (blk_cell BK102.out 11).trans rfl
                    have hcz20_12 : wc.cell? ⟨gb102, 12, none⟩ = some (.int .i64 a0_12) := (blk_cell BK102.out 12).trans rfl
                    have hcz20_13 : wc.cell? ⟨gb102, 13, none⟩ = some (.string a0_13) := (blk_cell BK102.out 13).trans rfl
                    have hcz20_14 : wc.cell? ⟨gb102, 14, none⟩ = some (.bool a0_14) := (blk_cell BK102.out 14).trans rfl
                    have hcz20_15 : wc.cell? ⟨gb102, 15, none⟩ = some (.int .i64 a0_15) := (blk_cell BK102.out 15).trans rfl
                    have hcz20_16 : wc.cell? ⟨gb102, 16, none⟩ = some (.bool a0_16) := (blk_cell BK102.out 16).trans rfl
                    have hcz20_17 : wc.cell? ⟨gb102, 17, none⟩ = some (.int .i64 a0_17) := (blk_cell BK102.out 17).trans rfl
                    have hcz20_18 : wc.cell? ⟨gb102, 18, none⟩ = some (.int .i32 a0_18) := (blk_cell BK102.out 18).trans rfl
                    have hcz20_19 : wc.cell? ⟨gb102, 19, none⟩ = some (.int .i64 a0_19) := (blk_cell BK102.out 19).trans rfl
                    have hfz20_0 := blk_frozen BK102.out 0
                    have hfz20_1 := blk_frozen BK102.out 1
                    have hfz20_2 := blk_frozen BK102.out 2
                    have hfz20_3 := blk_frozen BK102.out 3
                    have hfz20_4 := blk_frozen BK102.out 4
                    have hfz20_5 := blk_frozen BK102.out 5
                    have hfz20_6 := blk_frozen BK102.out 6
                    have hfz20_7 := blk_frozen BK102.out 7
                    have hfz20_8 := blk_frozen BK102.out 8
                    have hfz20_9 := blk_frozen BK102.out 9
                    have hfz20_10 := blk_frozen BK102.out 10
                    have hfz20_11 := blk_frozen BK102.out 11
                    have hfz20_12 := blk_frozen BK102.out 12
                    have hfz20_13 := blk_frozen BK102.out 13
                    have hfz20_14 := blk_frozen BK102.out 14
                    have hfz20_15 := blk_frozen BK102.out 15
                    have hfz20_16 := blk_frozen BK102.out 16
                    have hfz20_17 := blk_frozen BK102.out 17
                    have hfz20_18 := blk_frozen BK102.out 18
                    have hfz20_19 := blk_frozen BK102.out 19
                    go_wp2
                    go_ret
                    exact ⟨by first | rfl | (simp [errW_none, errW_some] <;> rfl) | (simp [*, errW_none, errW_some] <;> rfl), by repeat (first | (with_reducible first | exact HB.out | apply below_alloc | apply pw_below_drewN | apply below_drew1 | refine below_set ?_ GE102.out) | exact HB.out)⟩

end Go.Proofs.YtgobcejjefgkcaaDoor.Print
