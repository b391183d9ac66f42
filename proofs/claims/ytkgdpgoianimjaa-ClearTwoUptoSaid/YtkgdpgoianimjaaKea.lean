/- clear.Pair and clear.Clear, told by their texts. (Several texts, merged by this session's own program.) -/
import Derived.Test.YtkgdpgoianimjaaKcb
import Derived.Test.YtkgdpgoianimjaaFS
import Derived.Test.YtkgdpgoianimjaaRt
import Derived.Test.YtkgdpgoianimjaaSg
import Derived.Test.YtkgdpgoianimjaaPI
namespace Go.Proofs.Ytkgdpgoianimjaa.Print
open Go.RowKit Go.Proofs.Ytkgdpgoianimjaa.Utf Go.Proofs.YtkgdpgoianimjaaW.PrintWords Go.Proofs.YtkgdpgoianimjaaW.PrintLast Go.Proofs.YtkgdpgoianimjaaW.PrintMore
set_option linter.unusedVariables false
set_option linter.unusedSimpArgs false
/-- A row of items that may be read. -/
def Rw (w : World) (v : Value) (l : List S57) : Prop := ∃ A c, v = .slice A l.length c ∧ l.length ≤ c ∧ Kd.C k57 w A l.length l
theorem Rw.below {w W : World} {v : Value} {l : List S57} (h : Rw w v l) (hb : Below w.heap.size w W) : Rw W v l := by
  obtain ⟨A, c, h1, h2, h3⟩ := h
  exact ⟨A, c, h1, h2, Kd.C_below h3 hb⟩
theorem Rw.of {w : World} {base : Nat} {v : Value} {l : List S57} (h : Kd.R k57 57 w base (fun _ => True) v l) : Rw w v l := Kd.R_reads h
def symC (z : Int) (s1 s2 s3 s4 s5 s6 s7 s8 : ByteArray) : Array Value := #[.int .i32 z, .string s1, .string s2, .string s3, .string s4, .string s5, .string s6, .string s7, .string s8]
set_option maxHeartbeats 8000000 in
set_option maxRecDepth 1000000 in
theorem clearPair_calls (z : Int) (s1 s2 s3 s4 s5 s6 s7 s8 : ByteArray) (w0 w1 w3 w4 : Value) (hn : Bool) (p : N.NP) (at_ pad width : Int) (l0 l1 l3 l4 : List S57) (neg : Bool) (T : List S57 → ByteArray) (w : World)
    (h0 : Rw w w0 l0) (h1 : Rw w w1 l1) (h3 : Rw w w3 l3) (h4 : Rw w w4 l4)
    (HT : ∀ l, (l = l0 ∨ l = l1 ∨ l = l3 ∨ l = l4) → ∀ (W : World) (A : Option Addr) (c : Nat), Kd.C k57 W A l.length l → l.length ≤ c → Calls Try.prog 21 #[.agg (symC z s1 s2 s3 s4 s5 s6 s7 s8), .slice A l.length c] W fun e w' => e = .returned (.string (T l)) ∧ Below W.heap.size W w') :
    Calls Try.prog 9 #[.agg (patP w0 w1 hn w3 w4 p at_ pad width), .agg (symC z s1 s2 s3 s4 s5 s6 s7 s8), .bool neg] w fun e w' => e = .returned (.tuple #[.string (if neg = true then T l3 else T l0), .string (if neg = true then T l4 else T l1)]) ∧ Below w.heap.size w w' := by
  obtain ⟨A0, c0, rfl, k0, C0⟩ := h0
  obtain ⟨A1, c1, rfl, k1, C1⟩ := h1
  obtain ⟨A3, c3, rfl, k3, C3⟩ := h3
  obtain ⟨A4, c4, rfl, k4, C4⟩ := h4
  have HALL := Lib.hid (And.intro k0 (And.intro C0 (And.intro k1 (And.intro C1 (And.intro k3 (And.intro C3 (And.intro k4 C4)))))))
  have HTT := Lib.hid HT
  clear k0 C0 k1 C1 k3 C3 k4 C4 HT
  cases neg
  · obtain ⟨r0, hr0⟩ : ∃ r, r = T l0 := ⟨_, rfl⟩
    obtain ⟨r1, hr1⟩ : ∃ r, r = T l1 := ⟨_, rfl⟩
    simp only [if_true, if_false, Bool.false_eq_true]
    rw [← hr0, ← hr1]
    have HT0 : Hid (∀ W, Below w.heap.size w W → Calls Try.prog 21 #[.agg (symC z s1 s2 s3 s4 s5 s6 s7 s8), .slice A0 l0.length c0] W fun e w' => e = .returned (.string r0) ∧ Below W.heap.size W w') := Lib.hid fun W hb => by
      rw [hr0]; exact HTT.out l0 (by simp) W A0 c0 (Kd.C_below HALL.out.2.1 hb) HALL.out.1
    have HT1 : Hid (∀ W, Below w.heap.size w W → Calls Try.prog 21 #[.agg (symC z s1 s2 s3 s4 s5 s6 s7 s8), .slice A1 l1.length c1] W fun e w' => e = .returned (.string r1) ∧ Below W.heap.size W w') := Lib.hid fun W hb => by
      rw [hr1]; exact HTT.out l1 (by simp) W A1 c1 (Kd.C_below HALL.out.2.2.2.1 hb) HALL.out.2.2.1
    clear hr0 hr1 HTT HALL
    unfold symC patP at *
    go_enter Try.func9, Try.ntmps9
    go_wp2_with (first
      | ((with_reducible refine gate_dst (N := 3) rfl ?_); refine box_event ?hg (N := 3) ?hd (cs := patP (.slice A0 l0.length c0) (.slice A1 l1.length c1) hn (.slice A3 l3.length c3) (.slice A4 l4.length c4) p at_ pad width) (t := 26) ?hr ?_; (case hd => rfl); (case hg => rfl); (case hr => first | (go_simp; done) | (go_simp; rfl)); intro gb hg w3 hbox hb; obtain ⟨gp, hgp⟩ : ∃ gp, gp = gb := ⟨_, rfl⟩; rw [← hgp] at hbox ⊢; have HB := Lib.hid hb; have HX := Lib.hid hbox; clear hb hbox hg hgp)
      | ((with_reducible refine gate_dst (N := 4) rfl ?_); refine box_event ?hg (N := 4) ?hd (cs := symC z s1 s2 s3 s4 s5 s6 s7 s8) (t := 23) ?hr ?_; (case hd => rfl); (case hg => rfl); (case hr => first | (go_simp; done) | (go_simp; rfl)); intro gb hg w5 hbox hb; obtain ⟨gs, hgs⟩ : ∃ gs, gs = gb := ⟨_, rfl⟩; rw [← hgs] at hbox ⊢; have HB5 := Lib.hid (below_step HB.out hb); have HX5 := Lib.hid (heap_keeps hb HX.out); have HY5 := Lib.hid hbox; clear hb hbox hg hgs))
    have HK5 : Hid (w5.drew.rangeAt gs 0 (symC z s1 s2 s3 s4 s5 s6 s7 s8).toList ∧ w5.drew.cell? ⟨gp, 0, none⟩ = some (.slice A0 l0.length c0) ∧ w5.drew.cell? ⟨gp, 1, none⟩ = some (.slice A1 l1.length c1)) := Lib.hid ⟨row_range (show w5.drew.heap[gs]? = _ from HY5.out), (blk_cell (show w5.drew.heap[gp]? = _ from HX5.out) 0).trans rfl, (blk_cell (show w5.drew.heap[gp]? = _ from HX5.out) 1).trans rfl⟩
    refine wp_region_held_drew (S := fun w' => w'.rangeAt gs 0 (symC z s1 s2 s3 s4 s5 s6 s7 s8).toList ∧ w'.cell? ⟨gp, 0, none⟩ = some (.slice A0 l0.length c0) ∧ w'.cell? ⟨gp, 1, none⟩ = some (.slice A1 l1.length c1)) (by kernel_rfl) HK5.out (fun hHeld => ?_)
    refine wpAnyH_take (i := 0) (oi := ?o0_1) (v := .agg (symC z s1 s2 s3 s4 s5 s6 s7 s8)) ?h0_1 (by kernel_rfl) (by kernel_rfl) (by kernel_rfl) ?q0_1 ?y0_1 hHeld ?r0_1
    case h0_1 => exact rfl
    case q0_1 => exact fun _ _ _ h => h
    case y0_1 => exact yields_row (by rfl) _ _ rfl _ rfl (symC z s1 s2 s3 s4 s5 s6 s7 s8) _ (fun _ h => h.1) Try.underlying23 rfl (by kernel_rfl)
    try simp only [Act.put, List.getElem_toArray, List.getElem_cons_succ, List.getElem_cons_zero, List.setIfInBounds_toArray, List.set_cons_zero, List.set_cons_succ]
    refine wpAnyH_take (i := 1) (oi := ?o1_2) (v := .pointer (some ⟨gp, 0, none⟩)) ?h1_2 (by kernel_rfl) (by kernel_rfl) (by kernel_rfl) ?q1_2 ?y1_2 hHeld ?r1_2
    case h1_2 => exact rfl
    case q1_2 => exact fun _ _ _ h => h
    case y1_2 => exact Or.inl ⟨by rfl, fun w hw => by first | rfl | (go_simp; done) | (go_simp; kernel_rfl)⟩
    try simp only [Act.put, List.getElem_toArray, List.getElem_cons_succ, List.getElem_cons_zero, List.setIfInBounds_toArray, List.set_cons_zero, List.set_cons_succ]
    refine wpAnyH_take (i := 2) (oi := ?o2_3) (v := .slice A0 l0.length c0) ?h2_3 (by kernel_rfl) (by kernel_rfl) (by kernel_rfl) ?q2_3 ?y2_3 hHeld ?r2_3
    case h2_3 => exact rfl
    case q2_3 => exact fun _ _ _ h => h
    case y2_3 => exact Or.inl ⟨by rfl, fun w hw => by (obtain ⟨hw0, hw, hw2⟩ := hw; clear hw0; go_simp)⟩
    try simp only [Act.put, List.getElem_toArray, List.getElem_cons_succ, List.getElem_cons_zero, List.setIfInBounds_toArray, List.set_cons_zero, List.set_cons_succ]
    refine wpAnyH_take (i := 4) (oi := ?o4_4) (v := .agg (symC z s1 s2 s3 s4 s5 s6 s7 s8)) ?h4_4 (by kernel_rfl) (by kernel_rfl) (by kernel_rfl) ?q4_4 ?y4_4 hHeld ?r4_4
    case h4_4 => exact rfl
    case q4_4 => exact fun _ _ _ h => h
    case y4_4 => exact yields_row (by rfl) _ _ rfl _ rfl (symC z s1 s2 s3 s4 s5 s6 s7 s8) _ (fun _ h => h.1) Try.underlying23 rfl (by kernel_rfl)
    try simp only [Act.put, List.getElem_toArray, List.getElem_cons_succ, List.getElem_cons_zero, List.setIfInBounds_toArray, List.set_cons_zero, List.set_cons_succ]
    refine wpAnyH_take (i := 5) (oi := ?o5_5) (v := .pointer (some ⟨gp, 1, none⟩)) ?h5_5 (by kernel_rfl) (by kernel_rfl) (by kernel_rfl) ?q5_5 ?y5_5 hHeld ?r5_5
    case h5_5 => exact rfl
    case q5_5 => exact fun _ _ _ h => h
    case y5_5 => exact Or.inl ⟨by rfl, fun w hw => by first | rfl | (go_simp; done) | (go_simp; kernel_rfl)⟩
    try simp only [Act.put, List.getElem_toArray, List.getElem_cons_succ, List.getElem_cons_zero, List.setIfInBounds_toArray, List.set_cons_zero, List.set_cons_succ]
    refine wpAnyH_take (i := 6) (oi := ?o6_6) (v := .slice A1 l1.length c1) ?h6_6 (by kernel_rfl) (by kernel_rfl) (by kernel_rfl) ?q6_6 ?y6_6 hHeld ?r6_6
    case h6_6 => exact rfl
    case q6_6 => exact fun _ _ _ h => h
    case y6_6 => exact Or.inl ⟨by rfl, fun w hw => by (obtain ⟨hw0, hw, hw2⟩ := hw; clear hw0; go_simp)⟩
    try simp only [Act.put, List.getElem_toArray, List.getElem_cons_succ, List.getElem_cons_zero, List.setIfInBounds_toArray, List.set_cons_zero, List.set_cons_succ]
    refine wpAnyH_ready (rs := [3]) (by kernel_rfl) (by simp) ?_
    refine AllReadyH.cons (o := ?o3_7) ?h3_7 (fun K3 hK => ?s3_7) AllReadyH.nil
    case h3_7 => exact rfl
    rw [if_pos (by rfl)]
    go_simp
    refine (HT0.out _ HB5.out.drew).mono ?_
    rintro e W6 ⟨rfl, b6⟩
    have HB6 := Lib.hid (below_step HB5.out.drew b6)
    have HX6 := Lib.hid (heap_keeps b6 (show w5.drew.heap[gp]? = _ from HX5.out))
    have HY6 := Lib.hid (heap_keeps b6 (show w5.drew.heap[gs]? = _ from HY5.out))
    clear b6
    dsimp only
    refine hK.out _ _ ⟨row_range HY6.out, (blk_cell HX6.out 0).trans rfl, (blk_cell HX6.out 1).trans rfl⟩ (fun hHeld6 => ?_)
    clear hK K3
    try simp only [Act.put, List.getElem_toArray, List.getElem_cons_succ, List.getElem_cons_zero, List.setIfInBounds_toArray, List.set_cons_zero, List.set_cons_succ]
    refine wpAnyH_ready (rs := [7]) (by kernel_rfl) (by simp) ?_
    refine AllReadyH.cons (o := ?o7_8) ?h7_8 (fun K7 hK => ?s7_8) AllReadyH.nil
    case h7_8 => exact rfl
    rw [if_pos (by rfl)]
    go_simp
    refine (HT1.out _ HB6.out).mono ?_
    rintro e W7 ⟨rfl, b7⟩
    have HB7 := Lib.hid (below_step HB6.out b7)
    have HX7 := Lib.hid (heap_keeps b7 HX6.out)
    have HY7 := Lib.hid (heap_keeps b7 HY6.out)
    clear b7
    dsimp only
    refine hK.out _ _ ⟨row_range HY7.out, (blk_cell HX7.out 0).trans rfl, (blk_cell HX7.out 1).trans rfl⟩ (fun hHeld7 => ?_)
    clear hK K7
    try simp only [Act.put, List.getElem_toArray, List.getElem_cons_succ, List.getElem_cons_zero, List.setIfInBounds_toArray, List.set_cons_zero, List.set_cons_succ]
    refine wpAnyH_take (i := 8) (oi := ?o8_9) (v := .string r0) ?h8_9 (by kernel_rfl) (by kernel_rfl) (by kernel_rfl) ?q8_9 ?y8_9 hHeld7 ?r8_9
    case h8_9 => exact rfl
    case q8_9 => exact fun _ _ _ h => h
    case y8_9 => exact Or.inl ⟨by rfl, fun w hw => by first | rfl | (go_simp; done) | (go_simp; kernel_rfl)⟩
    try simp only [Act.put, List.getElem_toArray, List.getElem_cons_succ, List.getElem_cons_zero, List.setIfInBounds_toArray, List.set_cons_zero, List.set_cons_succ]
    refine wpAnyH_take (i := 9) (oi := ?o9_10) (v := .string r1) ?h9_10 (by kernel_rfl) (by kernel_rfl) (by kernel_rfl) ?q9_10 ?y9_10 hHeld7 ?r9_10
    case h9_10 => exact rfl
    case q9_10 => exact fun _ _ _ h => h
    case y9_10 => exact Or.inl ⟨by rfl, fun w hw => by first | rfl | (go_simp; done) | (go_simp; kernel_rfl)⟩
    try simp only [Act.put, List.getElem_toArray, List.getElem_cons_succ, List.getElem_cons_zero, List.setIfInBounds_toArray, List.set_cons_zero, List.set_cons_succ]
    refine wpAnyH_done (by kernel_rfl) ?_ _
    go_wp2
    refine bodyPost_ret (results_tmp2 rfl _ _ _) rfl ?_
    exact ⟨rfl, HB7.out⟩
  · obtain ⟨r0, hr0⟩ : ∃ r, r = T l3 := ⟨_, rfl⟩
    obtain ⟨r1, hr1⟩ : ∃ r, r = T l4 := ⟨_, rfl⟩
    simp only [if_true, if_false, Bool.false_eq_true]
    rw [← hr0, ← hr1]
    have HT0 : Hid (∀ W, Below w.heap.size w W → Calls Try.prog 21 #[.agg (symC z s1 s2 s3 s4 s5 s6 s7 s8), .slice A3 l3.length c3] W fun e w' => e = .returned (.string r0) ∧ Below W.heap.size W w') := Lib.hid fun W hb => by
      rw [hr0]; exact HTT.out l3 (by simp) W A3 c3 (Kd.C_below HALL.out.2.2.2.2.2.1 hb) HALL.out.2.2.2.2.1
    have HT1 : Hid (∀ W, Below w.heap.size w W → Calls Try.prog 21 #[.agg (symC z s1 s2 s3 s4 s5 s6 s7 s8), .slice A4 l4.length c4] W fun e w' => e = .returned (.string r1) ∧ Below W.heap.size W w') := Lib.hid fun W hb => by
      rw [hr1]; exact HTT.out l4 (by simp) W A4 c4 (Kd.C_below HALL.out.2.2.2.2.2.2.2 hb) HALL.out.2.2.2.2.2.2.1
    clear hr0 hr1 HTT HALL
    unfold symC patP at *
    go_enter Try.func9, Try.ntmps9
    go_wp2_with (first
      | ((with_reducible refine gate_dst (N := 3) rfl ?_); refine box_event ?hg (N := 3) ?hd (cs := patP (.slice A0 l0.length c0) (.slice A1 l1.length c1) hn (.slice A3 l3.length c3) (.slice A4 l4.length c4) p at_ pad width) (t := 26) ?hr ?_; (case hd => rfl); (case hg => rfl); (case hr => first | (go_simp; done) | (go_simp; rfl)); intro gb hg w3 hbox hb; obtain ⟨gp, hgp⟩ : ∃ gp, gp = gb := ⟨_, rfl⟩; rw [← hgp] at hbox ⊢; have HB := Lib.hid hb; have HX := Lib.hid hbox; clear hb hbox hg hgp)
      | ((with_reducible refine gate_dst (N := 4) rfl ?_); refine box_event ?hg (N := 4) ?hd (cs := symC z s1 s2 s3 s4 s5 s6 s7 s8) (t := 23) ?hr ?_; (case hd => rfl); (case hg => rfl); (case hr => first | (go_simp; done) | (go_simp; rfl)); intro gb hg w5 hbox hb; obtain ⟨gs, hgs⟩ : ∃ gs, gs = gb := ⟨_, rfl⟩; rw [← hgs] at hbox ⊢; have HB5 := Lib.hid (below_step HB.out hb); have HX5 := Lib.hid (heap_keeps hb HX.out); have HY5 := Lib.hid hbox; clear hb hbox hg hgs))
    have HK5 : Hid (w5.drew.rangeAt gs 0 (symC z s1 s2 s3 s4 s5 s6 s7 s8).toList ∧ w5.drew.cell? ⟨gp, 3, none⟩ = some (.slice A3 l3.length c3) ∧ w5.drew.cell? ⟨gp, 4, none⟩ = some (.slice A4 l4.length c4)) := Lib.hid ⟨row_range (show w5.drew.heap[gs]? = _ from HY5.out), (blk_cell (show w5.drew.heap[gp]? = _ from HX5.out) 3).trans rfl, (blk_cell (show w5.drew.heap[gp]? = _ from HX5.out) 4).trans rfl⟩
    refine wp_region_held_drew (S := fun w' => w'.rangeAt gs 0 (symC z s1 s2 s3 s4 s5 s6 s7 s8).toList ∧ w'.cell? ⟨gp, 3, none⟩ = some (.slice A3 l3.length c3) ∧ w'.cell? ⟨gp, 4, none⟩ = some (.slice A4 l4.length c4)) (by kernel_rfl) HK5.out (fun hHeld => ?_)
    refine wpAnyH_take (i := 0) (oi := ?o0_11) (v := .agg (symC z s1 s2 s3 s4 s5 s6 s7 s8)) ?h0_11 (by kernel_rfl) (by kernel_rfl) (by kernel_rfl) ?q0_11 ?y0_11 hHeld ?r0_11
    case h0_11 => exact rfl
    case q0_11 => exact fun _ _ _ h => h
    case y0_11 => exact yields_row (by rfl) _ _ rfl _ rfl (symC z s1 s2 s3 s4 s5 s6 s7 s8) _ (fun _ h => h.1) Try.underlying23 rfl (by kernel_rfl)
    try simp only [Act.put, List.getElem_toArray, List.getElem_cons_succ, List.getElem_cons_zero, List.setIfInBounds_toArray, List.set_cons_zero, List.set_cons_succ]
    refine wpAnyH_take (i := 1) (oi := ?o1_12) (v := .pointer (some ⟨gp, 3, none⟩)) ?h1_12 (by kernel_rfl) (by kernel_rfl) (by kernel_rfl) ?q1_12 ?y1_12 hHeld ?r1_12
    case h1_12 => exact rfl
    case q1_12 => exact fun _ _ _ h => h
    case y1_12 => exact Or.inl ⟨by rfl, fun w hw => by first | rfl | (go_simp; done) | (go_simp; kernel_rfl)⟩
    try simp only [Act.put, List.getElem_toArray, List.getElem_cons_succ, List.getElem_cons_zero, List.setIfInBounds_toArray, List.set_cons_zero, List.set_cons_succ]
    refine wpAnyH_take (i := 2) (oi := ?o2_13) (v := .slice A3 l3.length c3) ?h2_13 (by kernel_rfl) (by kernel_rfl) (by kernel_rfl) ?q2_13 ?y2_13 hHeld ?r2_13
    case h2_13 => exact rfl
    case q2_13 => exact fun _ _ _ h => h
    case y2_13 => exact Or.inl ⟨by rfl, fun w hw => by (obtain ⟨hw0, hw, hw2⟩ := hw; clear hw0; go_simp)⟩
    try simp only [Act.put, List.getElem_toArray, List.getElem_cons_succ, List.getElem_cons_zero, List.setIfInBounds_toArray, List.set_cons_zero, List.set_cons_succ]
    refine wpAnyH_take (i := 4) (oi := ?o4_14) (v := .agg (symC z s1 s2 s3 s4 s5 s6 s7 s8)) ?h4_14 (by kernel_rfl) (by kernel_rfl) (by kernel_rfl) ?q4_14 ?y4_14 hHeld ?r4_14
    case h4_14 => exact rfl
    case q4_14 => exact fun _ _ _ h => h
    case y4_14 => exact yields_row (by rfl) _ _ rfl _ rfl (symC z s1 s2 s3 s4 s5 s6 s7 s8) _ (fun _ h => h.1) Try.underlying23 rfl (by kernel_rfl)
    try simp only [Act.put, List.getElem_toArray, List.getElem_cons_succ, List.getElem_cons_zero, List.setIfInBounds_toArray, List.set_cons_zero, List.set_cons_succ]
    refine wpAnyH_take (i := 5) (oi := ?o5_15) (v := .pointer (some ⟨gp, 4, none⟩)) ?h5_15 (by kernel_rfl) (by kernel_rfl) (by kernel_rfl) ?q5_15 ?y5_15 hHeld ?r5_15
    case h5_15 => exact rfl
    case q5_15 => exact fun _ _ _ h => h
    case y5_15 => exact Or.inl ⟨by rfl, fun w hw => by first | rfl | (go_simp; done) | (go_simp; kernel_rfl)⟩
    try simp only [Act.put, List.getElem_toArray, List.getElem_cons_succ, List.getElem_cons_zero, List.setIfInBounds_toArray, List.set_cons_zero, List.set_cons_succ]
    refine wpAnyH_take (i := 6) (oi := ?o6_16) (v := .slice A4 l4.length c4) ?h6_16 (by kernel_rfl) (by kernel_rfl) (by kernel_rfl) ?q6_16 ?y6_16 hHeld ?r6_16
    case h6_16 => exact rfl
    case q6_16 => exact fun _ _ _ h => h
    case y6_16 => exact Or.inl ⟨by rfl, fun w hw => by (obtain ⟨hw0, hw, hw2⟩ := hw; clear hw0; go_simp)⟩
    try simp only [Act.put, List.getElem_toArray, List.getElem_cons_succ, List.getElem_cons_zero, List.setIfInBounds_toArray, List.set_cons_zero, List.set_cons_succ]
    refine wpAnyH_ready (rs := [3]) (by kernel_rfl) (by simp) ?_
    refine AllReadyH.cons (o := ?o3_17) ?h3_17 (fun K3 hK => ?s3_17) AllReadyH.nil
    case h3_17 => exact rfl
    rw [if_pos (by rfl)]
    go_simp
    refine (HT0.out _ HB5.out.drew).mono ?_
    rintro e W6 ⟨rfl, b6⟩
    have HB6 := Lib.hid (below_step HB5.out.drew b6)
    have HX6 := Lib.hid (heap_keeps b6 (show w5.drew.heap[gp]? = _ from HX5.out))
    have HY6 := Lib.hid (heap_keeps b6 (show w5.drew.heap[gs]? = _ from HY5.out))
    clear b6
    dsimp only
    refine hK.out _ _ ⟨row_range HY6.out, (blk_cell HX6.out 3).trans rfl, (blk_cell HX6.out 4).trans rfl⟩ (fun hHeld6 => ?_)
    clear hK K3
    try simp only [Act.put, List.getElem_toArray, List.getElem_cons_succ, List.getElem_cons_zero, List.setIfInBounds_toArray, List.set_cons_zero, List.set_cons_succ]
    refine wpAnyH_ready (rs := [7]) (by kernel_rfl) (by simp) ?_
    refine AllReadyH.cons (o := ?o7_18) ?h7_18 (fun K7 hK => ?s7_18) AllReadyH.nil
    case h7_18 => exact rfl
    rw [if_pos (by rfl)]
    go_simp
    refine (HT1.out _ HB6.out).mono ?_
    rintro e W7 ⟨rfl, b7⟩
    have HB7 := Lib.hid (below_step HB6.out b7)
    have HX7 := Lib.hid (heap_keeps b7 HX6.out)
    have HY7 := Lib.hid (heap_keeps b7 HY6.out)
    clear b7
    dsimp only
    refine hK.out _ _ ⟨row_range HY7.out, (blk_cell HX7.out 3).trans rfl, (blk_cell HX7.out 4).trans rfl⟩ (fun hHeld7 => ?_)
    clear hK K7
    try simp only [Act.put, List.getElem_toArray, List.getElem_cons_succ, List.getElem_cons_zero, List.setIfInBounds_toArray, List.set_cons_zero, List.set_cons_succ]
    refine wpAnyH_take (i := 8) (oi := ?o8_19) (v := .string r0) ?h8_19 (by kernel_rfl) (by kernel_rfl) (by kernel_rfl) ?q8_19 ?y8_19 hHeld7 ?r8_19
    case h8_19 => exact rfl
    case q8_19 => exact fun _ _ _ h => h
    case y8_19 => exact Or.inl ⟨by rfl, fun w hw => by first | rfl | (go_simp; done) | (go_simp; kernel_rfl)⟩
    try simp only [Act.put, List.getElem_toArray, List.getElem_cons_succ, List.getElem_cons_zero, List.setIfInBounds_toArray, List.set_cons_zero, List.set_cons_succ]
    refine wpAnyH_take (i := 9) (oi := ?o9_20) (v := .string r1) ?h9_20 (by kernel_rfl) (by kernel_rfl) (by kernel_rfl) ?q9_20 ?y9_20 hHeld7 ?r9_20
    case h9_20 => exact rfl
    case q9_20 => exact fun _ _ _ h => h
    case y9_20 => exact Or.inl ⟨by rfl, fun w hw => by first | rfl | (go_simp; done) | (go_simp; kernel_rfl)⟩
    try simp only [Act.put, List.getElem_toArray, List.getElem_cons_succ, List.getElem_cons_zero, List.setIfInBounds_toArray, List.set_cons_zero, List.set_cons_succ]
    refine wpAnyH_done (by kernel_rfl) ?_ _
    go_wp2
    refine bodyPost_ret (results_tmp2 rfl _ _ _) rfl ?_
    exact ⟨rfl, HB7.out⟩
open Go.RowKit Go.Lib Go.Proofs.Ytkgdpgoianimjaa.Utf Go.Proofs.Ytkgdpgoianimjaa.Pure Go.Proofs.YtkgdpgoianimjaaW.PrintWords Go.Proofs.YtkgdpgoianimjaaW.PrintLast Go.Proofs.YtkgdpgoianimjaaW.PrintMore
set_option linter.unusedVariables false
set_option linter.unusedSimpArgs false
theorem isd_calls (z r : Int) (w : World) : Calls Try.prog 24 #[.int .i32 z, .int .i32 r] w fun e w' => e = .returned (.bool (isZ z r)) ∧ Below w.heap.size w w' := by
  obtain ⟨k, hk⟩ := is_val z r
  exact (digit_Is.calls k z r _ w hk).mono fun e w' h => ⟨h.1, h.2.below⟩
/-- Is a code point strange? -/
def strangeB (z at_ pad x : Int) : Bool := isZ z x || ((at_ != 0) && (x == pad))
set_option maxHeartbeats 4000000 in
set_option maxRecDepth 1000000 in
theorem strange_calls (z : Int) (s1 s2 s3 s4 s5 s6 s7 s8 : ByteArray) (w0 w1 w3 w4 : Value) (hn : Bool) (p : N.NP) (at_ pad width : Int) (gs gp : Nat) (x : Int) (w : World)
    (hs : w.heap[gs]? = some (.cells (symC z s1 s2 s3 s4 s5 s6 s7 s8) 23 (0, 0))) (hp : w.heap[gp]? = some (.cells (patP w0 w1 hn w3 w4 p at_ pad width) 26 (0, 0))) :
    Calls Try.prog 23 #[.int .i32 x, .pointer (some ⟨gs, 0, none⟩), .pointer (some ⟨gp, 0, none⟩)] w fun e w' => e = .returned (.bool (strangeB z at_ pad x)) ∧ Below w.heap.size w w' := by
  obtain ⟨b, hb⟩ : ∃ b, b = isZ z x := ⟨_, rfl⟩
  have HC : Hid (∀ W, Calls Try.prog 24 #[.int .i32 z, .int .i32 x] W fun e w' => e = .returned (.bool b) ∧ Below W.heap.size W w') := Lib.hid fun W => by rw [hb]; exact isd_calls z x W
  unfold strangeB
  rw [← hb]
  have f0 : w.cell? ⟨gs, 0, none⟩ = some (.int .i32 z) := (blk_cell hs 0).trans rfl
  have HF : Hid (∀ W, Below w.heap.size w W → W.cell? ⟨gp, 17, none⟩ = some (.int .i64 at_) ∧ W.cell? ⟨gp, 18, none⟩ = some (.int .i32 pad)) := Lib.hid fun W h => ⟨(blk_cell (heap_keeps h hp) 17).trans rfl, (blk_cell (heap_keeps h hp) 18).trans rfl⟩
  clear hs hp hb
  cases b with
  | true =>
    go_enter Try.func23, Try.ntmps23
    go_wp2_with (go_at_call 24; (with_reducible refine (HC.out _).mono ?_); rintro e1 W1 ⟨rfl, b1⟩; have HB1 := Lib.hid b1; clear b1)
    go_ret
    exact ⟨rfl, HB1.out⟩
  | false =>
    cases ha : (at_ != 0) with
    | false =>
      go_enter Try.func23, Try.ntmps23
      go_wp2_with (go_at_call 24; (with_reducible refine (HC.out _).mono ?_); rintro e1 W1 ⟨rfl, b1⟩; have HB1 := Lib.hid b1; have f1 := (HF.out W1 b1).1; have f2 := (HF.out W1 b1).2; clear b1)
      go_ret
      exact ⟨rfl, HB1.out⟩
    | true =>
      cases hx : (x == pad) <;>
      · go_enter Try.func23, Try.ntmps23
        go_wp2_with (go_at_call 24; (with_reducible refine (HC.out _).mono ?_); rintro e1 W1 ⟨rfl, b1⟩; have HB1 := Lib.hid b1; have f1 := (HF.out W1 b1).1; have f2 := (HF.out W1 b1).2; clear b1)
        go_ret
        exact ⟨rfl, HB1.out⟩
/-- Has a text a strange code point? -/
def dirtyB (z at_ pad : Int) (t : ByteArray) : Bool := decide (0 ≤ Lib.idxFunc (fun x => strangeB z at_ pad x) true t)
set_option maxHeartbeats 4000000 in
set_option maxRecDepth 1000000 in
theorem dirty_calls (z : Int) (s1 s2 s3 s4 s5 s6 s7 s8 : ByteArray) (w0 w1 w3 w4 : Value) (hn : Bool) (p : N.NP) (at_ pad width : Int) (gs gp gd : Nat) (t : ByteArray) (w : World)
    (hs : w.heap[gs]? = some (.cells (symC z s1 s2 s3 s4 s5 s6 s7 s8) 23 (0, 0))) (hp : w.heap[gp]? = some (.cells (patP w0 w1 hn w3 w4 p at_ pad width) 26 (0, 0)))
    (hd : w.cell? ⟨gd, 0, none⟩ = some (.func (.func 23) #[] #[.pointer (some ⟨gs, 0, none⟩), .pointer (some ⟨gp, 0, none⟩)])) :
    Calls Try.prog 25 #[.string t, .pointer (some ⟨gd, 0, none⟩)] w fun e w' => e = .returned (.bool (dirtyB z at_ pad t)) ∧ Below w.heap.size w w' := by
  have eg : ∀ args w, (callFunc 23 args).run Try.prog w = .ok (.enter 23 args) w := Go.Proofs.enters_of Try.func23 (by kernel_rfl) rfl
  have HC : Hid (Calls Try.prog 26 #[.string t, .func (.func 23) #[] #[.pointer (some ⟨gs, 0, none⟩), .pointer (some ⟨gp, 0, none⟩)]] w fun e w' => e = .returned (.bool (dirtyB z at_ pad t)) ∧ Below w.heap.size w w') :=
    Lib.hid (Try.strings_ContainsFunc_grows 23 _ eg (fun x => strangeB z at_ pad x) t w (fun W x hx hb => strange_calls z s1 s2 s3 s4 s5 s6 s7 s8 w0 w1 w3 w4 hn p at_ pad width gs gp x W (heap_keeps hb hs) (heap_keeps hb hp)))
  obtain ⟨b, hb⟩ : ∃ b, b = dirtyB z at_ pad t := ⟨_, rfl⟩
  rw [← hb] at HC ⊢
  clear hs hp hb eg
  go_enter Try.func25, Try.ntmps25
  go_wp2_with (go_at_call 26; (with_reducible refine HC.out.mono ?_); rintro e1 W1 ⟨rfl, b1⟩; have HB1 := Lib.hid b1; clear b1)
  go_ret
  exact ⟨rfl, HB1.out⟩
theorem any_take (D : ByteArray → Bool) (ts : List ByteArray) (i : Nat) (t : ByteArray) (h : ts[i]? = some t) (h0 : (ts.take i).any D = false) : (ts.take (i + 1)).any D = D t := by
  rw [List.take_add_one, h]
  simp [h0]
theorem any_at (D : ByteArray → Bool) (ts : List ByteArray) (i : Nat) (t : ByteArray) (h : ts[i]? = some t) (h0 : D t = true) : ts.any D = true :=
  List.any_eq_true.2 ⟨t, List.mem_of_getElem? h, h0⟩
theorem idx_strs (g n c i : Nat) (W : World) (hi : i < n) :
    (Instr.indexAt 59 (.slice (some ⟨g, 0, none⟩) n c) (.int .i64 (i : Int))).run Try.prog W = .ok (.pointer (some ⟨g, i, none⟩)) W := by
  have ht : Try.prog.underlying 59 = some (.slice (Try.prog.elem 59)) := by kernel_rfl
  have he : Try.prog.elem 59 = 9 := by kernel_rfl
  rw [run_indexAt_slice _ _ _ _ _ _ _ ht, he, if_pos ⟨by omega, by omega⟩, z_str]
  simp [Result.andThen, Addr.add_lit]
set_option maxHeartbeats 4000000 in
set_option maxRecDepth 1000000 in
theorem indexS_calls (g : Nat) (lb : Array Value) (eg : ∀ args w, (callFunc g args).run Try.prog w = .ok (.enter g args) w) (D : ByteArray → Bool) (ts : List ByteArray) (n : Nat) (hn : n = ts.length) (hnl : n ≤ 1000000) (gl c : Nat) (w : World)
    (hl : ∀ i t, ts[i]? = some t → w.cell? ⟨gl, i, none⟩ = some (.string t)) (hg : gl < w.heap.size)
    (hD : ∀ W, Below w.heap.size w W → ∀ t, Calls Try.prog g (#[.string t] ++ lb) W fun e w' => e = .returned (.bool (D t)) ∧ Below W.heap.size W w') :
    Calls Try.prog 45 #[.slice (some ⟨gl, 0, none⟩) n c, .func (.func g) #[] lb] w fun e w' => ∃ r : Int, e = .returned (.int .i64 r) ∧ (decide (0 ≤ r) = ts.any D) ∧ Below w.heap.size w w' := by
  have HL := Lib.hid hl
  have HD := Lib.hid hD
  have HN := Lib.hid hn
  have HG := Lib.hid hg
  have hnl' : (n : Int) ≤ 1000000 := by omega
  clear hl hD hn hg
  go_enter Try.func45, Try.ntmps45
  go_wp2
  go_loopw [5, 8] (fun v5 v8 wx => ∃ i : Nat, v8 = .int .i64 (i : Int) ∧ i ≤ n ∧ Below w.heap.size w wx ∧ Hid ((ts.take i).any D = false)) (fun v5 v8 wx => n - (RowKit.intOf v8).toNat)
  case atStart => exact ⟨0, rfl, Nat.zero_le _, Below.refl _ _, Lib.hid rfl⟩
  case round =>
    obtain ⟨i, rfl, hil, hb1, hgo⟩ := hrel
    have HB1 := Lib.hid hb1
    clear hb1
    by_cases hi : i < n
    · obtain ⟨t, ht⟩ : ∃ t, ts[i]? = some t := ⟨_, List.getElem?_eq_getElem (by rw [← HN.out]; exact hi)⟩
      have hix := fun W => idx_strs gl n c i W hi
      have hc := (HB1.out.cell (p := ⟨gl, i, none⟩) HG.out).trans (HL.out i t ht)
      have hcall := HD.out wr HB1.out t
      cases hd : D t with
      | true =>
        rw [hd] at hcall
        have HA : Hid (ts.any D = true) := Lib.hid (any_at D ts i t ht hd)
        have HCL := Lib.hid hcall
        clear hcall ht hd hgo
        go_wp2_with (go_at_fn g; refine HCL.out.mono ?_; rintro e W1 ⟨rfl, b1⟩; have HB2 := Lib.hid (below_step HB1.out b1); clear b1)
        go_ret
        exact ⟨_, rfl, by rw [HA.out]; exact decide_eq_true (by omega), HB2.out⟩
      | false =>
        rw [hd] at hcall
        have HA : Hid ((ts.take (i + 1)).any D = false) := Lib.hid (by rw [any_take D ts i t ht hgo.out, hd])
        have HCL := Lib.hid hcall
        clear hcall ht hd hgo
        go_wp2_with (go_at_fn g; refine HCL.out.mono ?_; rintro e W1 ⟨rfl, b1⟩; have HB2 := Lib.hid (below_step HB1.out b1); clear b1)
        go_roundw
        case rel => exact ⟨i + 1, by go_num, by omega, HB2.out, HA⟩
        case measure => simp [RowKit.intOf]; omega
    · have HA : Hid (ts.any D = false) := Lib.hid (by have := hgo.out; rwa [List.take_of_length_le (by rw [← HN.out]; omega)] at this)
      clear hgo
      go_wp2
      go_ret
      exact ⟨_, rfl, by rw [HA.out]; rfl, HB1.out⟩
set_option maxHeartbeats 4000000 in
set_option maxRecDepth 1000000 in
theorem containsS_calls (g : Nat) (lb : Array Value) (eg : ∀ args w, (callFunc g args).run Try.prog w = .ok (.enter g args) w) (D : ByteArray → Bool) (ts : List ByteArray) (n : Nat) (hn : n = ts.length) (hnl : n ≤ 1000000) (gl c : Nat) (w : World)
    (hl : ∀ i t, ts[i]? = some t → w.cell? ⟨gl, i, none⟩ = some (.string t)) (hg : gl < w.heap.size)
    (hD : ∀ W, Below w.heap.size w W → ∀ t, Calls Try.prog g (#[.string t] ++ lb) W fun e w' => e = .returned (.bool (D t)) ∧ Below W.heap.size W w') :
    Calls Try.prog 27 #[.slice (some ⟨gl, 0, none⟩) n c, .func (.func g) #[] lb] w fun e w' => e = .returned (.bool (ts.any D)) ∧ Below w.heap.size w w' := by
  have HC := Lib.hid (indexS_calls g lb eg D ts n hn hnl gl c w hl hg hD)
  obtain ⟨b, hb⟩ : ∃ b, b = ts.any D := ⟨_, rfl⟩
  rw [← hb] at HC ⊢
  clear hb hl hg hD hn
  go_enter Try.func27, Try.ntmps27
  go_wp2_with (go_at_call 45; (with_reducible refine HC.out.mono ?_); rintro e1 W1 ⟨r, rfl, hr, b1⟩; have HB1 := Lib.hid b1; have HR := Lib.hid hr; clear b1 hr)
  go_ret
  exact ⟨by rw [← HR.out]; rfl, HB1.out⟩
open Go.RowKit Go.Lib Go.Proofs.Ytkgdpgoianimjaa.Utf Go.Proofs.Ytkgdpgoianimjaa.Pure Go.Proofs.YtkgdpgoianimjaaW.PrintWords Go.Proofs.YtkgdpgoianimjaaW.PrintLast Go.Proofs.YtkgdpgoianimjaaW.PrintMore
set_option linter.unusedVariables false
set_option linter.unusedSimpArgs false
def sufB (x y : ByteArray) : Bool := Lib.hasSuffix x.data.toList y.data.toList
/-- What stands behind the test of the texts. -/
def clearR (z at_ pad : Int) (s1 s2 s3 s4 a b c d : ByteArray) : Bool :=
  if ((at_ != 0) && isZ z pad) = true then false else if (((a.toList == c.toList) && (b.toList == d.toList)) || (sufB a s1 || sufB c s1)) = true then false else (!(s2.toList == s1.toList)) && (!(s4.toList == s3.toList))
def clearB (z at_ pad : Int) (s1 s2 s3 s4 s8 a b c d : ByteArray) : Bool :=
  if [a, b, c, d, s1, s2, s3, s4, s8].any (dirtyB z at_ pad) = true then false else clearR z at_ pad s1 s2 s3 s4 a b c d
noncomputable def clBody : Code := (Try.f11.body).getD .skip
noncomputable def Cl (k : Nat) : Code := restOf k clBody
def BPost (b : Bool) (w : World) (e : Ending) (w' : World) : Prop := e = .returned (.bool b) ∧ Below w.heap.size w w'
/-- The cells that Clear reads. -/
structure Cv (W : World) (gs gp : Nat) (z at_ pad : Int) (s1 s2 s3 s4 s8 : ByteArray) : Prop where
  f0 : W.cell? ⟨gs, 0, none⟩ = some (.int .i32 z)
  f1 : W.cell? ⟨gs, 1, none⟩ = some (.string s1)
  f2 : W.cell? ⟨gs, 2, none⟩ = some (.string s2)
  f3 : W.cell? ⟨gs, 3, none⟩ = some (.string s3)
  f4 : W.cell? ⟨gs, 4, none⟩ = some (.string s4)
  f8 : W.cell? ⟨gs, 8, none⟩ = some (.string s8)
  p17 : W.cell? ⟨gp, 17, none⟩ = some (.int .i64 at_)
  p18 : W.cell? ⟨gp, 18, none⟩ = some (.int .i32 pad)
theorem cv_of {W : World} {gs gp : Nat} {z : Int} {s1 s2 s3 s4 s5 s6 s7 s8 : ByteArray} {w0 w1 w3 w4 : Value} {hn : Bool} {p : N.NP} {at_ pad width : Int}
    (hs : W.heap[gs]? = some (.cells (symC z s1 s2 s3 s4 s5 s6 s7 s8) 23 (0, 0))) (hp : W.heap[gp]? = some (.cells (patP w0 w1 hn w3 w4 p at_ pad width) 26 (0, 0))) : Cv W gs gp z at_ pad s1 s2 s3 s4 s8 :=
  ⟨(blk_cell hs 0).trans rfl, (blk_cell hs 1).trans rfl, (blk_cell hs 2).trans rfl, (blk_cell hs 3).trans rfl, (blk_cell hs 4).trans rfl, (blk_cell hs 8).trans rfl, (blk_cell hp 17).trans rfl, (blk_cell hp 18).trans rfl⟩
set_option maxHeartbeats 16000000 in
set_option maxRecDepth 1000000 in
theorem cl5 {v0 v1 v4 v9 v11 v12 v13 v14 v15 v16 v17 v18 v19 v20 v21 v22 v23 v24 v25 v26 v27 v28 v29 v30 v31 v32 v33 v34 v35 v36 v37 v38 v39 v40 v41 v42 v43 v44 v45 v46 v47 v48 v49 v50 v51 v52 v53 v54 v55 v56 v57 v58 v59 v60 v61 v62 v63 v64 v65 v66 v67 v68 v69 v70 v71 v72 v73 v74 v75 v76 v77 v78 v79 v80 v81 v82 : Value} (w W : World) (z : Int) (s1 s2 s3 s4 s8 a b c d : ByteArray) (at_ pad : Int) (gs gp gd : Nat) (r : Bool) (hr : r = clearB z at_ pad s1 s2 s3 s4 s8 a b c d) (hb : Below w.heap.size w W)
    (hcv : ∀ W', Below W.heap.size W W' → Cv W' gs gp z at_ pad s1 s2 s3 s4 s8)
    (hD : ∀ W', Below W.heap.size W W' → ∀ t, Calls Try.prog 25 #[.string t, .pointer (some ⟨gd, 0, none⟩)] W' fun e w' => e = .returned (.bool (dirtyB z at_ pad t)) ∧ Below W'.heap.size W' w')
    (ha : a.size ≤ 1000000000) (hc : c.size ≤ 1000000000) :
    Code.wp Try.prog (Cl 5) (bodyPost Try.prog Try.f11 (BPost r w)) ⟨#[v0,v1, .pointer (some ⟨gp, 0, none⟩), .pointer (some ⟨gs, 0, none⟩),v4, .string a, .string b, .string c, .string d,v9, .func (.func 25) #[] #[.pointer (some ⟨gd, 0, none⟩)],v11,v12,v13,v14,v15,v16,v17,v18,v19,v20,v21,v22,v23,v24,v25,v26,v27,v28,v29,v30,v31,v32,v33,v34,v35,v36,v37,v38,v39,v40,v41,v42,v43,v44,v45,v46,v47,v48,v49,v50,v51,v52,v53,v54,v55,v56,v57,v58,v59,v60,v61,v62,v63,v64,v65,v66,v67,v68,v69,v70,v71,v72,v73,v74,v75,v76,v77,v78,v79,v80,v81,v82], []⟩ W := by
  obtain ⟨B1, hB1⟩ : ∃ B, B = [a, b, c, d, s1, s2, s3, s4, s8].any (dirtyB z at_ pad) := ⟨_, rfl⟩
  obtain ⟨B3, hB3⟩ : ∃ B, B = isZ z pad := ⟨_, rfl⟩
  obtain ⟨B6, hB6⟩ : ∃ B, B = sufB a s1 := ⟨_, rfl⟩
  obtain ⟨B7, hB7⟩ : ∃ B, B = sufB c s1 := ⟨_, rfl⟩
  have eg : ∀ args w, (callFunc 25 args).run Try.prog w = .ok (.enter 25 args) w := Go.Proofs.enters_of Try.func25 (by kernel_rfl) rfl
  have HCV := Lib.hid hcv
  have HB := Lib.hid hb
  have hwb : ∀ (cs : Array Value), Below W.heap.size W (W.alloc (.cells cs 9 (0, 0))) := fun cs => below_alloc (Below.refl _ _) _
  have HC27 : Hid (Calls Try.prog 27 #[.slice (some ⟨W.heap.size, 0, none⟩) 9 9, .func (.func 25) #[] #[.pointer (some ⟨gd, 0, none⟩)]] (W.alloc (.cells #[.string a, .string b, .string c, .string d, .string s1, .string s2, .string s3, .string s4, .string s8] 9 (0, 0))) fun e w' => e = .returned (.bool B1) ∧ Below W.heap.size W w') := Lib.hid (by
    rw [hB1]
    refine (containsS_calls 25 #[.pointer (some ⟨gd, 0, none⟩)] eg (dirtyB z at_ pad) [a, b, c, d, s1, s2, s3, s4, s8] 9 rfl (by decide) W.heap.size 9 _ (fun i t ht => ?_) (blk_lt (heap_alloc_new W _)) (fun W' hW t => hD W' (below_step (hwb _) hW) t)).mono fun e w' h => ⟨h.1, below_step (hwb _) h.2⟩
    rw [blk_cell (heap_alloc_new W _) i]
    have h9 : (#[.string a, .string b, .string c, .string d, .string s1, .string s2, .string s3, .string s4, .string s8] : Array Value) = ([a, b, c, d, s1, s2, s3, s4, s8].map Value.string).toArray := rfl
    rw [h9, List.getElem?_toArray, List.getElem?_map, ht]
    rfl)
  have HC24 : Hid (∀ W, Calls Try.prog 24 #[.int .i32 z, .int .i32 pad] W fun e w' => e = .returned (.bool B3) ∧ Below W.heap.size W w') := Lib.hid fun W => by rw [hB3]; exact isd_calls z pad W
  have HC6 : Hid (∀ W, Calls Try.prog 28 #[.string a, .string s1] W fun e w' => e = .returned (.bool B6) ∧ w' = W) := Lib.hid fun W => by rw [hB6]; exact Try.strings_HasSuffix a s1 W (by omega)
  have HC7 : Hid (∀ W, Calls Try.prog 28 #[.string c, .string s1] W fun e w' => e = .returned (.bool B7) ∧ w' = W) := Lib.hid fun W => by rw [hB7]; exact Try.strings_HasSuffix c s1 W (by omega)
  have hr2 : r = if B1 = true then false else if ((at_ != 0) && B3) = true then false else if (((a.toList == c.toList) && (b.toList == d.toList)) || (B6 || B7)) = true then false else (!(s2.toList == s1.toList)) && (!(s4.toList == s3.toList)) := by
    rw [hr]; unfold clearB clearR; rw [← hB1, ← hB3, ← hB6, ← hB7]
  have HR := Lib.hid hr2
  have hcv0 := hcv W (Below.refl _ _)
  obtain ⟨f0, f1, f2, f3, f4, f8, p17, p18⟩ := hcv0
  clear hr hr2 hb hcv hD hB1 hB3 hB6 hB7 eg hwb ha hc
  rw [show Cl 5 = .seq (stmtOf 5 clBody) (.seq (stmtOf 6 clBody) (Cl 7)) from by kernel_rfl]
  have hz5 : stmtOf 5 clBody = stmtOf 5 clBody := rfl
  conv at hz5 => rhs; whnf
  rw [hz5]; clear hz5
  have hz6 : stmtOf 6 clBody = stmtOf 6 clBody := rfl
  conv at hz6 => rhs; whnf
  rw [hz6]; clear hz6
  rw [show Cl 7 = Code.ret from by kernel_rfl]
  cases B1 with
  | true =>
    go_wp2_with (first
      | (go_at_call 27; (with_reducible refine HC27.out.mono ?_); rintro e1 W1 ⟨rfl, b1⟩; have HB1 := Lib.hid b1; obtain ⟨f0, f1, f2, f3, f4, f8, p17, p18⟩ := HCV.out W1 b1; clear b1)
      | (go_at_call 24; (with_reducible refine (HC24.out _).mono ?_); rintro e1 W2 ⟨rfl, b1⟩; have HB2 := Lib.hid (below_step HB1.out b1); obtain ⟨f0, f1, f2, f3, f4, f8, p17, p18⟩ := HCV.out W2 HB2.out; clear b1)
      | (go_at_call 28; (with_reducible refine (HC6.out _).mono ?_); rintro e1 W3 ⟨rfl, hW3⟩; subst hW3)
      | (go_at_call 28; (with_reducible refine (HC7.out _).mono ?_); rintro e1 W3 ⟨rfl, hW3⟩; subst hW3))
    all_goals go_ret
    all_goals refine ⟨?_, below_step HB.out HB1.out⟩
    all_goals (rw [HR.out]; simp_all)
  | false =>
    cases ht : (at_ != 0) with
    | true =>
      rw [ht] at HR
      cases B3 with
      | true =>
        go_wp2_with (first
          | (go_at_call 27; (with_reducible refine HC27.out.mono ?_); rintro e1 W1 ⟨rfl, b1⟩; have HB1 := Lib.hid b1; obtain ⟨f0, f1, f2, f3, f4, f8, p17, p18⟩ := HCV.out W1 b1; clear b1)
          | (go_at_call 24; (with_reducible refine (HC24.out _).mono ?_); rintro e1 W2 ⟨rfl, b1⟩; have HB2 := Lib.hid (below_step HB1.out b1); obtain ⟨f0, f1, f2, f3, f4, f8, p17, p18⟩ := HCV.out W2 HB2.out; clear b1)
          | (go_at_call 28; (with_reducible refine (HC6.out _).mono ?_); rintro e1 W3 ⟨rfl, hW3⟩; subst hW3)
          | (go_at_call 28; (with_reducible refine (HC7.out _).mono ?_); rintro e1 W3 ⟨rfl, hW3⟩; subst hW3))
        all_goals go_ret
        all_goals refine ⟨?_, below_step HB.out HB2.out⟩
        all_goals (rw [HR.out]; simp_all)
      | false =>
        go_wp2_with (first
          | (go_at_call 27; (with_reducible refine HC27.out.mono ?_); rintro e1 W1 ⟨rfl, b1⟩; have HB1 := Lib.hid b1; obtain ⟨f0, f1, f2, f3, f4, f8, p17, p18⟩ := HCV.out W1 b1; clear b1)
          | (go_at_call 24; (with_reducible refine (HC24.out _).mono ?_); rintro e1 W2 ⟨rfl, b1⟩; have HB2 := Lib.hid (below_step HB1.out b1); obtain ⟨f0, f1, f2, f3, f4, f8, p17, p18⟩ := HCV.out W2 HB2.out; clear b1)
          | (go_at_call 28; (with_reducible refine (HC6.out _).mono ?_); rintro e1 W3 ⟨rfl, hW3⟩; subst hW3)
          | (go_at_call 28; (with_reducible refine (HC7.out _).mono ?_); rintro e1 W3 ⟨rfl, hW3⟩; subst hW3))
        all_goals go_ret
        all_goals refine ⟨?_, below_step HB.out HB2.out⟩
        all_goals (rw [HR.out]; simp_all)
    | false =>
      rw [ht] at HR
      go_wp2_with (first
        | (go_at_call 27; (with_reducible refine HC27.out.mono ?_); rintro e1 W1 ⟨rfl, b1⟩; have HB1 := Lib.hid b1; obtain ⟨f0, f1, f2, f3, f4, f8, p17, p18⟩ := HCV.out W1 b1; clear b1)
        | (go_at_call 24; (with_reducible refine (HC24.out _).mono ?_); rintro e1 W2 ⟨rfl, b1⟩; have HB2 := Lib.hid (below_step HB1.out b1); obtain ⟨f0, f1, f2, f3, f4, f8, p17, p18⟩ := HCV.out W2 HB2.out; clear b1)
        | (go_at_call 28; (with_reducible refine (HC6.out _).mono ?_); rintro e1 W3 ⟨rfl, hW3⟩; subst hW3)
        | (go_at_call 28; (with_reducible refine (HC7.out _).mono ?_); rintro e1 W3 ⟨rfl, hW3⟩; subst hW3))
      all_goals go_ret
      all_goals refine ⟨?_, below_step HB.out HB1.out⟩
      all_goals (rw [HR.out]; simp_all)
theorem set_1v (x v : Value) : setAll #[x] 0 [v] = #[v] := by kernel_rfl
set_option maxHeartbeats 16000000 in
set_option maxRecDepth 1000000 in
/-- CLEAR'S CONTRACT. -/
theorem clear_calls (z : Int) (s1 s2 s3 s4 s5 s6 s7 s8 : ByteArray) (w0 w1 w3 w4 : Value) (hn : Bool) (p : N.NP) (at_ pad width : Int) (l0 l1 l3 l4 : List S57) (T : List S57 → ByteArray) (w : World)
    (h0 : Rw w w0 l0) (h1 : Rw w w1 l1) (h3 : Rw w w3 l3) (h4 : Rw w w4 l4)
    (HT : ∀ l, (l = l0 ∨ l = l1 ∨ l = l3 ∨ l = l4) → ∀ (W : World) (A : Option Addr) (c : Nat), Kd.C k57 W A l.length l → l.length ≤ c → Calls Try.prog 21 #[.agg (symC z s1 s2 s3 s4 s5 s6 s7 s8), .slice A l.length c] W fun e w' => e = .returned (.string (T l)) ∧ Below W.heap.size W w')
    (ha : (T l0).size ≤ 1000000000) (hc : (T l3).size ≤ 1000000000) :
    Calls Try.prog 11 #[.agg (patP w0 w1 hn w3 w4 p at_ pad width), .agg (symC z s1 s2 s3 s4 s5 s6 s7 s8)] w (BPost (clearB z at_ pad s1 s2 s3 s4 s8 (T l0) (T l1) (T l3) (T l4)) w) := by
  have HP1 : Hid (∀ W, Below w.heap.size w W → Calls Try.prog 9 #[.agg (patP w0 w1 hn w3 w4 p at_ pad width), .agg (symC z s1 s2 s3 s4 s5 s6 s7 s8), .bool false] W fun e w' => e = .returned (.tuple #[.string (T l0), .string (T l1)]) ∧ Below W.heap.size W w') := Lib.hid fun W hb =>
    clearPair_calls z s1 s2 s3 s4 s5 s6 s7 s8 w0 w1 w3 w4 hn p at_ pad width l0 l1 l3 l4 false T W (h0.below hb) (h1.below hb) (h3.below hb) (h4.below hb) HT
  have HP2 : Hid (∀ W, Below w.heap.size w W → Calls Try.prog 9 #[.agg (patP w0 w1 hn w3 w4 p at_ pad width), .agg (symC z s1 s2 s3 s4 s5 s6 s7 s8), .bool true] W fun e w' => e = .returned (.tuple #[.string (T l3), .string (T l4)]) ∧ Below W.heap.size W w') := Lib.hid fun W hb =>
    clearPair_calls z s1 s2 s3 s4 s5 s6 s7 s8 w0 w1 w3 w4 hn p at_ pad width l0 l1 l3 l4 true T W (h0.below hb) (h1.below hb) (h3.below hb) (h4.below hb) HT
  obtain ⟨a, hea⟩ : ∃ a, a = T l0 := ⟨_, rfl⟩
  obtain ⟨b, heb⟩ : ∃ b, b = T l1 := ⟨_, rfl⟩
  obtain ⟨c, hec⟩ : ∃ c, c = T l3 := ⟨_, rfl⟩
  obtain ⟨d, hed⟩ : ∃ d, d = T l4 := ⟨_, rfl⟩
  rw [← hea, ← heb] at HP1
  rw [← hec, ← hed] at HP2
  rw [← hea, ← heb, ← hec, ← hed]
  rw [← hea] at ha
  rw [← hec] at hc
  obtain ⟨r, hr⟩ : ∃ r, r = clearB z at_ pad s1 s2 s3 s4 s8 a b c d := ⟨_, rfl⟩
  rw [← hr]
  have HALL := Lib.hid (And.intro hr (And.intro ha hc))
  clear h0 h1 h3 h4 HT hea heb hec hed ha hc hr
  refine calls_of_wp (c := Cl 0) Try.func11 (by kernel_rfl) ?_
  simp only [Try.ntmps11, List.size_toArray, List.length_cons, List.length_nil, Nat.reduceAdd, Nat.reduceSub, Array.replicate_succ, Array.replicate_zero, List.push_toArray, List.append_toArray, List.nil_append, List.cons_append]
  rw [show Cl 0 = .seq (stmtOf 0 clBody) (.seq (stmtOf 1 clBody) (.seq (stmtOf 2 clBody) (.seq (stmtOf 3 clBody) (.seq (stmtOf 4 clBody) (Cl 5))))) from by kernel_rfl]
  have hz0 : stmtOf 0 clBody = stmtOf 0 clBody := rfl
  conv at hz0 => rhs; whnf
  rw [hz0]; clear hz0
  have hz1 : stmtOf 1 clBody = stmtOf 1 clBody := rfl
  conv at hz1 => rhs; whnf
  rw [hz1]; clear hz1
  have hz2 : stmtOf 2 clBody = stmtOf 2 clBody := rfl
  conv at hz2 => rhs; whnf
  rw [hz2]; clear hz2
  have hz3 : stmtOf 3 clBody = stmtOf 3 clBody := rfl
  conv at hz3 => rhs; whnf
  rw [hz3]; clear hz3
  have hz4 : stmtOf 4 clBody = stmtOf 4 clBody := rfl
  conv at hz4 => rhs; whnf
  rw [hz4]; clear hz4
  unfold patP symC
  go_wp2_with (first
    | ((with_reducible refine gate_dst (N := 2) rfl ?_); refine box_event ?hg (N := 2) ?hd (cs := patP w0 w1 hn w3 w4 p at_ pad width) (t := 26) ?hr ?_; (case hd => rfl); (case hg => rfl); (case hr => first | (go_simp; done) | (go_simp; rfl)); intro gb hg w5 hbox hb; obtain ⟨gp, hgp⟩ : ∃ gp, gp = gb := ⟨_, rfl⟩; rw [← hgp] at hbox ⊢; have HB5 := Lib.hid hb; have HX5 := Lib.hid hbox; clear hb hbox hg hgp)
    | ((with_reducible refine gate_dst (N := 3) rfl ?_); refine box_event ?hg (N := 3) ?hd (cs := symC z s1 s2 s3 s4 s5 s6 s7 s8) (t := 23) ?hr ?_; (case hd => rfl); (case hg => rfl); (case hr => first | (go_simp; done) | (go_simp; rfl)); intro gb hg w6 hbox hb; obtain ⟨gs, hgs⟩ : ∃ gs, gs = gb := ⟨_, rfl⟩; rw [← hgs] at hbox ⊢; have HB6 := Lib.hid (below_step HB5.out hb); have HX6 := Lib.hid (heap_keeps hb HX5.out); have HY6 := Lib.hid hbox; clear hb hbox hg hgs)
    | ((with_reducible refine gate_dst (N := 12) rfl ?_); refine wpList_load_mid rfl 26 (.tmp 2) rfl gp 0 rfl (patP w0 w1 hn w3 w4 p at_ pad width).toList _ (row_range HX6.out) Try.underlying26 rfl (by kernel_rfl) ?_; rw [arr_back3])
    | ((with_reducible refine gate_dst (N := 13) rfl ?_); refine wpList_load_mid rfl 23 (.tmp 3) rfl gs 0 rfl (symC z s1 s2 s3 s4 s5 s6 s7 s8).toList _ (row_range HY6.out) Try.underlying23 rfl (by kernel_rfl) ?_; rw [arr_back3])
    | (go_at_call 9; (with_reducible refine (HP1.out _ HB6.out).mono ?_); rintro e1 W7 ⟨rfl, b1⟩; have HB7 := Lib.hid (below_step HB6.out b1); have HX7 := Lib.hid (heap_keeps b1 HX6.out); have HY7 := Lib.hid (heap_keeps b1 HY6.out); clear b1)
    | ((with_reducible refine gate_dst (N := 18) rfl ?_); refine wpList_load_mid rfl 26 (.tmp 2) rfl gp 0 rfl (patP w0 w1 hn w3 w4 p at_ pad width).toList _ (row_range HX7.out) Try.underlying26 rfl (by kernel_rfl) ?_; rw [arr_back3])
    | ((with_reducible refine gate_dst (N := 19) rfl ?_); refine wpList_load_mid rfl 23 (.tmp 3) rfl gs 0 rfl (symC z s1 s2 s3 s4 s5 s6 s7 s8).toList _ (row_range HY7.out) Try.underlying23 rfl (by kernel_rfl) ?_; rw [arr_back3])
    | (go_at_call 9; (with_reducible refine (HP2.out _ HB7.out).mono ?_); rintro e1 W8 ⟨rfl, b1⟩; have HB8 := Lib.hid (below_step HB7.out b1); have HX8 := Lib.hid (heap_keeps b1 HX7.out); have HY8 := Lib.hid (heap_keeps b1 HY7.out); clear b1)
    | ((with_reducible refine gate_store (t := 51) (p := 9) rfl ?_); refine store_any_event rfl rfl rfl W8.heap.size 0 (.func (.func 23) #[] #[.pointer (some ⟨gs, 0, none⟩), .pointer (some ⟨gp, 0, none⟩)]) #[.func (.func 23) #[] #[.pointer (some ⟨gs, 0, none⟩), .pointer (some ⟨gp, 0, none⟩)]] rfl rfl rfl _ _ (heap_alloc_new W8 _) (by kernel_rfl) (Nat.le_of_ble_eq_true (by kernel_rfl)) (all_one1 _ rfl) _ (set_1v _ _) ?_; intro W9 g p'; have HG9 := Lib.hid g; have HQ9 := Lib.hid p'; clear g p'))
  obtain ⟨hr, ha, hc⟩ := HALL.out
  have b9 : Below W8.heap.size W8 W9 := HQ9.out.below (below_alloc (Below.refl _ _) _) (Nat.le_refl _)
  have hX9 := heap_keeps b9 HX8.out
  have hY9 := heap_keeps b9 HY8.out
  have hd9 : W9.cell? ⟨W8.heap.size, 0, none⟩ = some (.func (.func 23) #[] #[.pointer (some ⟨gs, 0, none⟩), .pointer (some ⟨gp, 0, none⟩)]) := (blk_cell HG9.out 0).trans rfl
  exact cl5 w W9 z s1 s2 s3 s4 s8 a b c d at_ pad gs gp W8.heap.size r hr (below_step HB8.out b9) (fun W' hW => cv_of (heap_keeps hW hY9) (heap_keeps hW hX9))
    (fun W' hW t => dirty_calls z s1 s2 s3 s4 s5 s6 s7 s8 w0 w1 w3 w4 hn p at_ pad width gs gp W8.heap.size t W' (heap_keeps hW hY9) (heap_keeps hW hX9) ((hW.cell (p := ⟨W8.heap.size, 0, none⟩) (blk_lt HG9.out)).trans hd9)) ha hc
end Go.Proofs.Ytkgdpgoianimjaa.Print
