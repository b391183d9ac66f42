/- The reader of package number: significant. -/
import Derived.Test.YtgobcejjefgkcaaDoorNe
import Derived.Deep.RegionHeld3
namespace Go.Proofs.YtgobcejjefgkcaaDoor.Print
open Go.RowKit Go.Proofs.YtgobcejjefgkcaaDoorW.PrintWords Go.Proofs.YtgobcejjefgkcaaDoorW.PrintLast Go.Proofs.YtgobcejjefgkcaaDoorW.PrintMore
set_option linter.unusedVariables false
set_option linter.unusedSimpArgs false

/-- What is kept of the world while sorts are made. -/
def HeldF (w0 : World) (b : Nat) (r : RD) (l : List (Nat × Int)) (W : World) : Prop := IsRd W b r ∧ Below w0.heap.size w0 W ∧ ∀ x ∈ l, W.cell? ⟨x.1, 0, none⟩ = some (.int .i32 x.2)
theorem held_drew {w0 : World} {b : Nat} {r : RD} {l : List (Nat × Int)} {W : World} (h : Hid (HeldF w0 b r l W)) : Hid (HeldF w0 b r l W.drew) := by
  obtain ⟨h1, h2, h3⟩ := h.out
  exact Lib.hid ⟨blk_drew h1, h2.drew, fun x hx => h3 x hx⟩
theorem one_held (w0 : World) (b : Nat) (r : RD) (l : List (Nat × Int)) (c : Int) (W : World) (hH : Hid (HeldF w0 b r l W)) : Calls Tryd.prog 35 #[.int .i32 c] W fun e w' =>
    ∃ k, e = .returned (.func (.func 50) #[] #[.pointer (some ⟨k, 0, none⟩)]) ∧ Hid (HeldF w0 b r (l ++ [(k, c)]) w') ∧ w'.cell? ⟨b, 0, none⟩ = some (.string r.wh) ∧ w'.cell? ⟨b, 1, none⟩ = some (.string r.fr) := by
  obtain ⟨h1, h2, h3⟩ := hH.out
  refine (one_calls c W).mono fun e w' ⟨he, hw⟩ => ?_
  have hb := one_below hw
  have h1' : IsRd w' b r := heap_keeps hb h1
  refine ⟨W.heap.size, he, Lib.hid ⟨h1', below_step h2 hb, fun x hx => ?_⟩, blk_cell h1' 0, blk_cell h1' 1⟩
  rcases List.mem_append.1 hx with hx | hx
  · exact (hb.cell (p := ⟨x.1, 0, none⟩) (World.block_lt_of_cell? W _ (h3 x hx))).trans (h3 x hx)
  · obtain rfl := List.mem_singleton.1 hx
    exact one_cell hw
theorem set_sig {W : World} {b : Nat} {r : RD} (h : IsRd W b r) (x y : Int) : IsRd ((W.setCell ⟨b, 14, none⟩ (.int .i64 x)).setCell ⟨b, 15, none⟩ (.int .i64 y)) b { r with ms := x, xs := y } := by
  rw [IsRd, blk_set (blk_set h 14 _) 15 _]
  simp [rdV]
def sigR (r : RD) : RD := { r with ms := (N.sp N.isA ((N.L r.wh).dropWhile N.isH) : Int), xs := ((N.sp N.isA ((N.L r.wh).dropWhile N.isH) + N.sp N.isH (((N.L r.wh).dropWhile N.isH).dropWhile N.isA) : Nat) : Int) }
set_option maxHeartbeats 8000000 in
set_option maxRecDepth 1000000 in
theorem significant_calls (r : RD) (b : Nat) (w : World) (h : IsRd w b r) (hs : r.wh.size ≤ 1000000000) (hlow : ∀ c ∈ N.L r.wh, c.toNat < 128) :
    Calls Tryd.prog 44 #[.pointer (some ⟨b, 0, none⟩)] w fun e w' => e = .returned (.int .i64 (N.sigE r.pt (N.L r.wh))) ∧ Mid b w w' ∧ Then (N.sigE r.pt (N.L r.wh)) (IsRd w' b (sigR r)) := by
  obtain ⟨d, hd⟩ : ∃ d, d = (N.L r.wh).any N.dig := ⟨_, rfl⟩
  have hcf : ∀ W, Calls Tryd.prog 39 #[.string r.wh, .func (.func 37) #[] #[]] W fun e w' => e = .returned (.bool d) ∧ Below W.heap.size W w' := fun W => by
    rw [hd, ← N.contains_is N.pDig N.dig r.wh (N.dig_sort2 r.wh hlow)]
    exact Tryd.strings_ContainsFunc_grows _ _ digit_enters N.pDig r.wh W (digit_pred W)
  have hc0 : w.cell? ⟨b, 0, none⟩ = some (.string r.wh) := blk_cell h 0
  have hc3 : w.cell? ⟨b, 3, none⟩ = some (.bool r.pt) := blk_cell h 3
  have hlt := blk_lt h
  obtain ⟨n1, hn1⟩ : ∃ n1, n1 = N.sp N.isA ((N.L r.wh).dropWhile N.isH) := ⟨_, rfl⟩
  obtain ⟨n2, hn2⟩ : ∃ n2, n2 = N.sp N.isH (((N.L r.wh).dropWhile N.isH).dropWhile N.isA) := ⟨_, rfl⟩
  obtain ⟨al, hal⟩ : ∃ al, al = ((((N.L r.wh).dropWhile N.isH).dropWhile N.isA).dropWhile N.isH).isEmpty := ⟨_, rfl⟩
  have hal2 : ((((N.L r.wh).dropWhile N.isH).dropWhile N.isA).dropWhile N.isH ≠ []) ↔ al = false := by
    rw [hal]
    cases (((N.L r.wh).dropWhile N.isH).dropWhile N.isA).dropWhile N.isH <;> simp
  have hb1 : n1 ≤ 1000000000 := by
    have := N.sp_le N.isA ((N.L r.wh).dropWhile N.isH)
    have h2 := N.dw_len_le N.isH (N.L r.wh)
    rw [N.L_len] at h2
    omega
  have hb2 : n2 ≤ 1000000000 := by
    have := N.sp_le N.isH (((N.L r.wh).dropWhile N.isH).dropWhile N.isA)
    have h2 := N.dw_len_le N.isH (N.L r.wh)
    have h3 := N.dw_len_le N.isA ((N.L r.wh).dropWhile N.isH)
    rw [N.L_len] at h2
    omega
  have HSP : Hid (∀ (k1 k2 k3 : Nat) (W : World), Hid (HeldF w b r (([] ++ [(k1, 35)]) ++ [(k2, 64)] ++ [(k3, 35)]) W) → Calls Tryd.prog 34 #[.string r.wh, .slice (some ⟨W.heap.size, 0, none⟩) 3 3] (W.alloc (.cells #[.func (.func 50) #[] #[.pointer (some ⟨k1, 0, none⟩)], .func (.func 50) #[] #[.pointer (some ⟨k2, 0, none⟩)], .func (.func 50) #[] #[.pointer (some ⟨k3, 0, none⟩)]] 58)) fun e w' =>
      ∃ (g cap : Nat) (cur : Array Value), e = .returned (.tuple #[.slice (some ⟨g, 0, none⟩) 3 cap, .bool al]) ∧ w'.heap[g]? = some (.cells cur 3 (0, 0)) ∧ cur[1]? = some (.int .i64 (n1 : Int)) ∧ cur[2]? = some (.int .i64 (n2 : Int)) ∧ w.heap.size ≤ g ∧ IsRd w' b r ∧ Below w.heap.size w w' ∧ w'.cell? ⟨b, 0, none⟩ = some (.string r.wh)) := Lib.hid fun k1 k2 k3 W hH => by
    obtain ⟨h1, h2, h3⟩ := hH.out
    refine (spans_hah r.wh k1 k2 k3 W (h3 (k1, 35) (by simp)) (h3 (k2, 64) (by simp)) (h3 (k3, 35) (by simp)) hs).mono ?_
    rintro e w' ⟨g, cap, cur, rfl, q1, q2, q3, q4, q5⟩
    have hR : IsRd w' b r := heap_keeps q5 h1
    exact ⟨g, cap, cur, by rw [hal], q1, by rw [hn1]; exact q2, by rw [hn2]; exact q3, Nat.le_trans h2.size q4, hR, below_step h2 q5, blk_cell hR 0⟩
  unfold N.sigE
  rw [← hd, ← hn1]
  have HE : Hid (∀ z : Int, (if al = false ∨ n1 = 0 then 4 else 0) = z → (if (((N.L r.wh).dropWhile N.isH).dropWhile N.isA).dropWhile N.isH ≠ [] ∨ n1 = 0 then (4 : Int) else 0) = z) := Lib.hid fun z hz => by rw [← hz]; simp only [hal2]
  obtain ⟨pt, hpt⟩ : ∃ pt, pt = r.pt := ⟨_, rfl⟩
  rw [← hpt] at hc3 ⊢
  obtain ⟨rr, hrr⟩ : ∃ rr : RD, rr = sigR r := ⟨_, rfl⟩
  rw [← hrr]
  unfold sigR at hrr
  rw [← hn1, ← hn2] at hrr
  have HRR := Lib.hid hrr
  have HH := Lib.hid h
  clear h hlow hd hn1 hn2 hal hal2 hrr hpt hs
  cases pt with
  | true =>
    rw [if_pos (.inl rfl)]
    have HP : Hid (¬ ((6 : Int) = 0)) := Lib.hid (by decide)
    go_enter Tryd.func44, Tryd.ntmps44
    go_wp2
    go_ret
    exact ⟨rfl, Mid.refl _ _, fun h0 => absurd h0 HP.out⟩
  | false =>
    cases d with
    | true =>
      rw [if_pos (.inr rfl)]
      have HP : Hid (¬ ((6 : Int) = 0)) := Lib.hid (by decide)
      go_enter Tryd.func44, Tryd.ntmps44
      go_wp2_with (go_at_call 39; (with_reducible refine (hcf _).mono ?_); rintro e W1 ⟨rfl, b1⟩)
      go_ret
      exact ⟨rfl, Mid.of b1, fun h0 => absurd h0 HP.out⟩
    | false =>
      rw [if_neg (by simp)]
      obtain ⟨E, hE⟩ : ∃ E : Int, E = (if (((N.L r.wh).dropWhile N.isH).dropWhile N.isA).dropWhile N.isH ≠ [] ∨ n1 = 0 then (4 : Int) else 0) := ⟨_, rfl⟩
      rw [← hE]
      have HEE := Lib.hid hE
      clear hE
      go_enter Tryd.func44, Tryd.ntmps44
      go_wp2_with (go_at_call 39; (with_reducible refine (hcf _).mono ?_); rintro e W1 ⟨rfl, b1⟩; have HR1 := Lib.hid (heap_keeps b1 HH.out); have hd1 : W1.cell? ⟨b, 0, none⟩ = some (.string r.wh) := blk_cell HR1.out 0; have HF1 : Hid (HeldF w b r [] W1) := Lib.hid ⟨HR1.out, b1, fun x hx => by cases hx⟩)
      go_region_held3 (fun w' => w'.cell? ⟨b, 0, none⟩ = some (.string r.wh)) (first | go_keep | assumption)
        (first
          | (go_at_call 35; (with_reducible refine (one_held w b r _ _ _ (by first | assumption | exact held_drew HF1)).mono ?_); rintro e W2 ⟨k, rfl, hh2, d2, d21⟩)
          | (go_at_call 34; (with_reducible refine (HSP.out _ _ _ _ (by assumption)).mono ?_); rintro e W3 ⟨g, cap, cur, rfl, q1, q2, q3, q4, q5, q6, q7⟩))
      have hw1 := (blk_cell q1 1).trans q2
      have hw2 := (blk_cell q1 2).trans q3
      have hia1 := fun W => idx_ints 3 cap 1 g W (by omega)
      have hia2 := fun W => idx_ints 3 cap 2 g W (by omega)
      by_cases h1 : al = false ∨ n1 = 0
      · obtain rfl : E = 4 := HEE.out.trans (HE.out 4 (if_pos h1))
        have HP : Hid (¬ ((4 : Int) = 0)) := Lib.hid (by decide)
        rcases h1 with rfl | rfl
        · go_wp2
          go_ret
          exact ⟨rfl, Mid.of q6, fun h0 => absurd h0 HP.out⟩
        · go_wp2
          all_goals (go_ret; exact ⟨rfl, Mid.of q6, fun h0 => absurd h0 HP.out⟩)
      · obtain rfl : E = 0 := HEE.out.trans (HE.out 0 (if_neg h1))
        have ha : al = true := by
          cases al with
          | true => rfl
          | false => exact absurd (.inl rfl) h1
        subst ha
        have hnz : ((n1 : Int) == 0) = false := beq_eq_false_iff_ne.2 (fun e => h1 (.inr (by omega)))
        have hz1 : -9223372036854775808 ≤ (n1 : Int) + n2 := by omega
        have hz2 : (n1 : Int) + n2 ≤ 9223372036854775807 := by omega
        have HR3 := Lib.hid q5
        have hrf := blk_frozen q5
        have hk14 : W3.cell? ⟨b, 14, none⟩ = some (.int .i64 r.ms) := blk_cell q5 14
        have hk15 : W3.cell? ⟨b, 15, none⟩ = some (.int .i64 r.xs) := blk_cell q5 15
        have HQ6 := Lib.hid q6
        clear h1 q1 q2 q3 q4 q5 q6 q7
        go_wp2
        go_region
        go_wp2
        go_ret
        refine ⟨rfl, (((Mid.of HQ6.out).set _ _).set _ _).drew, fun _ => ?_⟩
        rw [HRR.out, Int.natCast_add]
        exact blk_drew (set_sig HR3.out (n1 : Int) ((n1 : Int) + n2))
end Go.Proofs.YtgobcejjefgkcaaDoor.Print
