/- Package affix's Tokens: what it answers, as a plain function, and its contract. -/
import Derived.Test.YtcenacecegleeaaDoorFG
import Derived.Test.YtcenacecegleeaaDoorFI
import Derived.Test.YtcenacecegleeaaDoorPrint3
import Derived.BigRegion
import Derived.Deep.RegionLaw
namespace Go.Proofs.YtcenacecegleeaaDoor.Print
open Go.RowKit Go.Proofs.YtcenacecegleeaaDoor.Utf Go.Proofs.YtcenacecegleeaaDoorW.PrintWords Go.Proofs.YtcenacecegleeaaDoorW.PrintLast Go.Proofs.YtcenacecegleeaaDoorW.PrintMore
set_option linter.unusedVariables false
set_option linter.unusedSimpArgs false

def needsB (r : Int) : Bool := decide (sgn r ≠ 0) || markB r || r == 69 || r == 39
theorem needs_val (r : Int) : affix_Needs.f r = some (needsB r) := by
  unfold affix_Needs.f affix_sign.f affix_mark.f needsB
  simp only [Option.bind_some]
  by_cases h : sgn r = 0
  · rw [if_pos h, decide_eq_false (fun hh => hh h), Bool.false_or]
    by_cases h1 : markB r = true
    · rw [if_pos h1, h1]; rfl
    · have h0 : markB r = false := by simpa using h1
      rw [if_neg h1, h0, Bool.false_or]
      by_cases h2 : r = 69
      · rw [if_pos h2, h2]; rfl
      · rw [if_neg h2, beq_eq_false_iff_ne.2 h2, Bool.false_or]
  · rw [if_neg h, decide_eq_true h]; rfl
/-- An item's token, if it may be. -/
def tokT (x : S43) : Option S36 :=
  if x.f0 = 1 ∧ Lib.validRune x.f1 = true then some ⟨x.f1, needsB x.f1, 0⟩ else if 2 ≤ x.f0 ∧ x.f0 ≤ 6 ∧ x.f1 = 0 then some ⟨sgnCh (x.f0 - 2).toNat, false, 0⟩ else none
def toksT : List S43 → Option (List S36)
  | [] => some []
  | x :: t => (tokT x).bind fun a => (toksT t).map fun b => a :: b
def affix_Tokens.f (l : List S43) : Option (List S36) := if l.length ≤ 1000000000 then some ((toksT l).getD []) else none
theorem toksT_snoc (l : List S43) (x : S43) : toksT (l ++ [x]) = (toksT l).bind fun b => (tokT x).map fun a => b ++ [a] := by
  induction l with
  | nil =>
    simp only [List.nil_append, toksT, Option.bind_some]
    cases tokT x <;> rfl
  | cons y t ih =>
    simp only [List.cons_append, toksT, ih]
    cases tokT y with
    | none => rfl
    | some a =>
      simp only [Option.bind_some]
      cases toksT t with
      | none => rfl
      | some b =>
        simp only [Option.bind_some, Option.map_some]
        cases tokT x <;> rfl
theorem toksT_bad (l : List S43) (i : Nat) (x : S43) (h : l[i]? = some x) (hx : tokT x = none) : toksT l = none := by
  induction l generalizing i with
  | nil => simp at h
  | cons y t ih =>
    simp only [toksT]
    cases i with
    | zero =>
      have : y = x := by simpa using h
      rw [this, hx]; rfl
    | succ i =>
      rw [ih i (by simpa using h)]
      cases tokT y <;> rfl
/-- A row of items that is read: where it lies. -/
theorem items_at {w : World} {A : Option Addr} {l : List S43} (h : Kd.C k43 w A l.length l) (hl : l ≠ []) :
    ∃ bk o, A = some ⟨bk, o, none⟩ ∧ bk < w.heap.size ∧ ∀ (j : Nat) x, l[j]? = some x → w.cell? ⟨bk, o + j * 2, none⟩ = some (.int .i64 x.f0) ∧ w.cell? ⟨bk, o + j * 2 + 1, none⟩ = some (.int .i32 x.f1) := by
  obtain ⟨_, _, hc⟩ := h
  obtain ⟨⟨bk, o, sp⟩, rfl, hc2⟩ := hc (List.length_pos_iff.2 hl)
  have one : ∀ (j : Nat) x, l[j]? = some x → w.cell? (Addr.add ⟨bk, o, sp⟩ (j * 2)) = some (.int .i64 x.f0) ∧ w.cell? (Addr.add ⟨bk, o, sp⟩ (j * 2 + 1)) = some (.int .i32 x.f1) := fun j x hx => by
    obtain ⟨c, _, hK, hcell⟩ := hc2 j x hx
    obtain rfl := k43_open hK
    exact ⟨hcell 0 _ rfl, hcell 1 _ rfl⟩
  obtain ⟨x, r, rfl⟩ := List.exists_cons_of_ne_nil hl
  have h0 := (one 0 x rfl).1
  rw [show (Addr.add ⟨bk, o, sp⟩ (0 * 2)) = ⟨bk, o, sp⟩ by simp [Addr.add]] at h0
  obtain rfl := cell_spot h0
  exact ⟨bk, o, rfl, World.block_lt_of_cell? w _ h0, fun j x hx => by have := one j x hx; rw [Addr.add_lit, Addr.add_lit] at this; exact this⟩
theorem z_item : ∀ w, (Go.sizeOf 43).run Tryd.prog w = .ok 2 w := fun w => by kernel_rfl
theorem idx_items (n c i bk o : Nat) (A : Option Addr) (W : World) (hA : A = some ⟨bk, o, none⟩) (hi : i < n) :
    (Instr.indexAt 24 (.slice A n c) (.int .i64 (i : Int))).run Tryd.prog W = .ok (.pointer (some ⟨bk, o + i * 2, none⟩)) W := by
  subst hA
  have ht : Tryd.prog.underlying 24 = some (.slice (Tryd.prog.elem 24)) := by kernel_rfl
  have he : Tryd.prog.elem 24 = 43 := by kernel_rfl
  rw [run_indexAt_slice _ _ _ _ _ _ _ ht, he, if_pos ⟨by omega, by omega⟩, z_item]
  simp [Result.andThen, Addr.add_lit]
/-- The table's place of a sign. -/
theorem sign_place (k : Int) (h1 : 2 ≤ k) (h2 : k ≤ 6) : ∃ o : Nat, (∀ W, (Instr.indexAt 47 (.pointer (some ⟨0, 0, none⟩)) (.int .i64 (k - 2))).run Tryd.prog W = .ok (.pointer (some ⟨0, o, none⟩)) W) ∧
    ∀ W, SignsTab W → W.cell? ⟨0, o + 1, none⟩ = some (.int .i32 (sgnCh (k - 2).toNat)) := by
  have hk : k = 2 ∨ k = 3 ∨ k = 4 ∨ k = 5 ∨ k = 6 := by omega
  rcases hk with rfl | rfl | rfl | rfl | rfl
  · exact ⟨0, fun W => by kernel_rfl, fun W ⟨t, fr, hs⟩ => (cell_of_row W _ 1 _ _ _ hs).trans rfl⟩
  · exact ⟨2, fun W => by kernel_rfl, fun W ⟨t, fr, hs⟩ => (cell_of_row W _ 3 _ _ _ hs).trans rfl⟩
  · exact ⟨4, fun W => by kernel_rfl, fun W ⟨t, fr, hs⟩ => (cell_of_row W _ 5 _ _ _ hs).trans rfl⟩
  · exact ⟨6, fun W => by kernel_rfl, fun W ⟨t, fr, hs⟩ => (cell_of_row W _ 7 _ _ _ hs).trans rfl⟩
  · exact ⟨8, fun W => by kernel_rfl, fun W ⟨t, fr, hs⟩ => (cell_of_row W _ 9 _ _ _ hs).trans rfl⟩
set_option maxHeartbeats 8000000 in
set_option maxRecDepth 1000000 in
theorem affix_Tokens.calls (A0 : Option Addr) (c0 : Nat) (l0 : List S43) (r : List S36) (w : World) (hr0 : Kd.C k43 w A0 l0.length l0) (hc0 : l0.length ≤ c0) (hT : Tabs w) (h : affix_Tokens.f l0 = some r) :
    Calls Tryd.prog 12 #[.slice A0 l0.length c0] w fun e w' => ∃ v0_ : Value, e = .returned (v0_) ∧ Kd.R k36 36 w' w.heap.size (fun _ => True) v0_ r ∧ Below w.heap.size w w' := by
  unfold affix_Tokens.f at h
  by_cases hlen : l0.length ≤ 1000000000
  rotate_left
  · rw [if_neg hlen] at h; cases h
  rw [if_pos hlen] at h
  have HH := Lib.hid (Option.some.inj h)
  have HT := Lib.hid hT
  clear h hT
  go_enter Tryd.func12, Tryd.ntmps12
  go_wp2
  go_loopw [3, 8] (fun v3 v8 wr => ∃ (i : Nat) (acc : List S36), v8 = .int .i64 i ∧ i ≤ l0.length ∧ Kd.R k36 36 wr w.heap.size (fun _ => True) v3 acc ∧ Below w.heap.size w wr ∧ Hid (toksT (l0.take i) = some acc) ∧ acc.length ≤ i) (fun v3 v8 wr => l0.length - (RowKit.intOf v8).toNat)
  case atStart => exact ⟨0, [], rfl, Nat.zero_le _, Kd.R_nil _ _ _ _ _, Below.refl _ w, Lib.hid rfl, by simp⟩
  case round =>
    obtain ⟨i, acc, rfl, hil, hR, hbw, hacc, hal⟩ := hrel
    have hsz := hbw.size
    by_cases hi : i < l0.length
    · obtain ⟨x, hx⟩ := get_exG l0 i hi
      obtain ⟨bk, o, hA1, hbk, hcells⟩ := items_at hr0 (fun e => by rw [e] at hi; simp at hi)
      have hia := fun W => idx_items l0.length c0 i bk o A0 W hA1 hi
      have hc := hcells i x hx
      have hcx0 := (hbw.cell (p := ⟨bk, o + i * 2, none⟩) hbk).trans hc.1
      have hcx1 := (hbw.cell (p := ⟨bk, o + i * 2 + 1, none⟩) hbk).trans hc.2
      have HX := Lib.hid hx
      clear hx hc hcells hA1
      obtain ⟨q, s⟩ := x
      simp only at hcx0 hcx1
      have hbad : tokT ⟨q, s⟩ = none → ([] : List S36) = r := fun hn => by
        have hh := HH.out
        rw [toksT_bad l0 i _ HX.out hn] at hh
        exact hh
      have hgood : ∀ a, tokT ⟨q, s⟩ = some a → toksT (l0.take (i + 1)) = some (acc ++ [a]) := fun a ha => by
        rw [List.take_add_one, HX.out]
        show toksT (l0.take i ++ [_]) = _
        rw [toksT_snoc, hacc.out, ha]
        rfl
      by_cases hk1 : q = 1
      · have hq : (q == 1) = true := by rw [hk1]; rfl
        by_cases hv : Lib.validRune s = true
        · have HG := Lib.hid (hgood _ (by unfold tokT; rw [if_pos ⟨hk1, hv⟩]))
          have HNV := Lib.hid (needs_val s)
          clear hbad hgood hk1
          have hnew : wr.heap.size < wr.heap.size + 1 := by omega
          go_wp2_with (go_at_call 25; refine (scalar_any s _).mono ?_; rintro e w' ⟨rfl, rfl⟩)
          go_region_law (first
            | (go_simp; go_at_call 19; (with_reducible refine (affix_Needs.calls s (needsB s) _ (Tabs_below HT.out (by repeat (first | (with_reducible first | exact hbw | apply below_alloc | apply pw_below_drewN | apply below_drew1) | exact hbw))) HNV.out).mono ?_); rintro e W4 ⟨rfl, b4⟩; have hb4 := below_step (by repeat (first | (with_reducible first | exact hbw | apply below_alloc | apply pw_below_drewN | apply below_drew1) | exact hbw)) b4; have hR4 := R_staysA (R_staysA hR (by repeat (first | (with_reducible first | exact Below.refl _ _ | apply below_alloc | apply pw_below_drewN | apply below_drew1) | exact Below.refl _ _))) b4; have hbk4 := heap_keeps b4 (heap_alloc_new wr _); have e0 := (blk_cell hbk4 0).trans rfl; have e1 := (blk_cell hbk4 1).trans rfl; have hsz4 := hb4.size)
            | (refine Kd.R_append_step k36 (w0 := w) w.heap.size (by rfl) (.tmp 21) (.tmp 28) 22 36 (.agg #[.int .i32 0, .bool false, .int .i64 0]) 16 rfl Tryd.underlying22 (by kernel_rfl) rfl (by decide) (by omega) u3 acc ⟨s, needsB s, 0⟩ [.int .i32 s, .bool (needsB s), .int .i64 0] (fun _ => True) (fun _ => False) rfl rfl ?aP (fun _ hk => hk.elim) ?aF ?aO ?aB ?aS ?aL ?_; (case aP => exact k36_mkM _ _ _ _); (case aB => exact hb4); (case aF => exact (fun _ _ => trivial)); (case aO => exact hR4); (case aS => exact hsz4); (case aL => omega); intro v140 w10 ho hb hg hat; clear hg hat))
          all_goals (
            go_wp2
            go_roundw
            case rel => exact ⟨i + 1, acc ++ [⟨s, needsB s, 0⟩], by go_num, by omega, ho, hb, HG, by simp; omega⟩
            case measure => simp [RowKit.intOf]; omega)
        · have hv0 : Lib.validRune s = false := by simpa using hv
          have h20 : decide (2 ≤ q) = false := decide_eq_false (by omega)
          have HN := Lib.hid (hbad (by unfold tokT; rw [if_neg (fun h => hv h.2), if_neg (fun h => by have h1 : 2 ≤ q := h.1; omega)]))
          clear hbad hgood hk1 hv
          go_wp2_with (go_at_call 25; refine (scalar_any s _).mono ?_; rintro e w' ⟨rfl, rfl⟩)
          go_ret
          exact ⟨_, rfl, by rw [← HN.out]; exact Kd.R_nil _ _ _ _ _, hbw.alloc hsz _⟩
      · have hq : (q == 1) = false := beq_eq_false_iff_ne.2 hk1
        by_cases h2 : 2 ≤ q
        rotate_left
        · have h20 : decide (2 ≤ q) = false := decide_eq_false h2
          have HN := Lib.hid (hbad (by unfold tokT; rw [if_neg (fun h => hk1 h.1), if_neg (fun h => h2 h.1)]))
          clear hbad hgood hk1 h2
          go_wp2
          go_ret
          exact ⟨_, rfl, by rw [← HN.out]; exact Kd.R_nil _ _ _ _ _, hbw.alloc hsz _⟩
        have h20 : decide (2 ≤ q) = true := decide_eq_true h2
        by_cases h6 : q ≤ 6
        rotate_left
        · have h60 : decide (q ≤ 6) = false := decide_eq_false h6
          have HN := Lib.hid (hbad (by unfold tokT; rw [if_neg (fun h => hk1 h.1), if_neg (fun h => h6 h.2.1)]))
          clear hbad hgood hk1 h2 h6
          go_wp2
          go_ret
          exact ⟨_, rfl, by rw [← HN.out]; exact Kd.R_nil _ _ _ _ _, hbw.alloc hsz _⟩
        have h60 : decide (q ≤ 6) = true := decide_eq_true h6
        by_cases hs : s = 0
        rotate_left
        · have hs0 : (s == 0) = false := beq_eq_false_iff_ne.2 hs
          have HN := Lib.hid (hbad (by unfold tokT; rw [if_neg (fun h => hk1 h.1), if_neg (fun h => hs h.2.2)]))
          clear hbad hgood hk1 hs
          go_wp2
          go_ret
          exact ⟨_, rfl, by rw [← HN.out]; exact Kd.R_nil _ _ _ _ _, hbw.alloc hsz _⟩
        have hs0 : (s == 0) = true := by rw [hs]; rfl
        have HG := Lib.hid (hgood _ (by unfold tokT; rw [if_neg (fun h => hk1 h.1), if_pos ⟨h2, h6, hs⟩]))
        obtain ⟨oo, hix, hsg⟩ := sign_place q h2 h6
        have hcs := hsg wr (Tabs_below HT.out hbw).2
        have hgl : 0 < wr.heap.size := World.block_lt_of_cell? wr _ hcs
        clear hbad hgood hk1 hs hsg
        obtain ⟨cc, hcc⟩ : ∃ cc, cc = sgnCh (q - 2).toNat := ⟨_, rfl⟩
        rw [← hcc] at hcs HG
        clear hcc
        go_wp2_with (((with_reducible refine gate_builtin (b := .append) (xs := #[.tmp 44, .tmp 52]) rfl ?_); at_builtin; refine Kd.R_append k36 (w0 := w) w.heap.size rfl (.tmp 44) (.tmp 52) 22 36 (.agg #[.int .i32 0, .bool false, .int .i64 0]) 16 rfl Tryd.underlying22 (by kernel_rfl) rfl (by decide) (by omega) u3 acc ⟨cc, false, 0⟩ [.int .i32 cc, .bool false, .int .i64 0] (fun _ => True) (fun _ => False) rfl (by simp [Act.eval]) ?aP (fun _ hk => hk.elim) ?aF ?aO ?aB ?aS ?aL ?_; (case aP => exact k36_mkM _ _ _ _); (case aB => exact (below_alloc hbw _)); (case aF => exact (fun _ _ => trivial)); (case aO => exact (R_staysA hR (by repeat (first | (with_reducible first | exact Below.refl _ _ | apply below_alloc | apply pw_below_drewN | apply below_drew1) | exact Below.refl _ _)))); (case aS => exact (below_alloc hbw _).size); (case aL => omega); intro v140 w10 ho hb hg hat; clear hg hat))
        go_roundw
        case rel => exact ⟨i + 1, acc ++ [⟨cc, false, 0⟩], by go_num, by omega, ho, hb, HG, by simp; omega⟩
        case measure => simp [RowKit.intOf]; omega
    · have hie : i = l0.length := by omega
      subst hie
      have hh := HH.out
      have ha := hacc.out
      rw [List.take_length] at ha
      rw [ha] at hh
      have HQ : Hid (acc = r) := Lib.hid hh
      clear hh ha
      go_wp2
      go_ret
      exact ⟨_, rfl, by rw [← HQ.out]; exact hR, hbw⟩
end Go.Proofs.YtcenacecegleeaaDoor.Print
