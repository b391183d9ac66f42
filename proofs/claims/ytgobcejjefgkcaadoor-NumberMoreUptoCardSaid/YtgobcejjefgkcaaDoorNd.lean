/- The reader of package number: exponent, parts. -/
import Derived.Test.YtgobcejjefgkcaaDoorNc
namespace Go.Proofs.YtgobcejjefgkcaaDoor.Print
open Go.RowKit Go.Proofs.YtgobcejjefgkcaaDoorW.PrintWords Go.Proofs.YtgobcejjefgkcaaDoorW.PrintLast Go.Proofs.YtgobcejjefgkcaaDoorW.PrintMore
set_option linter.unusedVariables false
set_option linter.unusedSimpArgs false

theorem prefix_plus (l : List UInt8) : Lib.hasPrefix l [43] = N.isPlus l ∧ Lib.trimPrefix l [43] = N.expX l := by
  have h : Lib.hasPrefix l [43] = N.isPlus l := by
    unfold Lib.hasPrefix N.isPlus
    cases l with
    | nil => rfl
    | cons a r =>
      simp only [List.isPrefixOf, List.head?_cons, Bool.and_true]
      by_cases e : a = 43
      · subst e; rfl
      · rw [beq_eq_false_iff_ne.2 (fun h => e h.symm)]
        exact (beq_eq_false_iff_ne.2 (fun h => e (Option.some.inj h))).symm
  refine ⟨h, ?_⟩
  unfold Lib.trimPrefix N.expX
  rw [h]
  cases N.isPlus l
  · rfl
  · simp
theorem expX_le (l : List UInt8) : (N.expX l).length ≤ l.length := by
  unfold N.expX
  split
  · rw [List.length_tail]; omega
  · exact Nat.le_refl _
theorem heap_keeps {w W : World} (h : Below w.heap.size w W) {k : Nat} {o : Obj} (hk : w.heap[k]? = some o) : W.heap[k]? = some o := (h.block k (Array.getElem?_eq_some_iff.1 hk).1).trans hk
theorem one_cell {w W : World} {c : Int} (h : W = w.alloc (.cells #[.int .i32 c] 21)) : W.cell? ⟨w.heap.size, 0, none⟩ = some (.int .i32 c) := by rw [h]; exact blk_cell (heap_alloc_new w _) 0
theorem one_below {w W : World} {c : Int} (h : W = w.alloc (.cells #[.int .i32 c] 21)) : Below w.heap.size w W := by rw [h]; exact (Below.refl _ w).alloc (Nat.le_refl _) _
theorem one_size {w W : World} {c : Int} (h : W = w.alloc (.cells #[.int .i32 c] 21)) : W.heap.size = w.heap.size + 1 := by rw [h]; show (w.heap.push _).size = _; simp
/-- Where there is no error. -/
def Then (e : Int) (p : Prop) : Prop := e = 0 → p
def expR (r : RD) : RD := if r.sc then { r with ps := true, pp := N.isPlus (N.L r.ex), me := (N.sp N.is0 (N.expX (N.L r.ex)) : Int) } else r

set_option maxHeartbeats 4000000 in
set_option maxRecDepth 1000000 in
theorem exponent_calls (r : RD) (b : Nat) (w : World) (h : IsRd w b r) (hs : r.ex.size ≤ 1000000000) :
    Calls Tryd.prog 18 #[.pointer (some ⟨b, 0, none⟩)] w fun e w' => e = .returned (.int .i64 (N.expE r.sc (N.L r.ex))) ∧ Mid b w w' ∧ Then (N.expE r.sc (N.L r.ex)) (IsRd w' b (expR r)) := by
  obtain ⟨c0, c1, c2, c3, c4⟩ := rd_cells h
  unfold expR
  cases hsc : r.sc with
  | false =>
    rw [hsc] at c4
    have e : N.expE false (N.L r.ex) = 0 := rfl
    have H := Lib.hid h
    rw [e]
    clear h hsc e
    go_enter Tryd.func18, Tryd.ntmps18
    go_wp2
    go_ret
    exact ⟨rfl, Mid.refl _ _, fun _ => H.out⟩
  | true =>
    rw [hsc] at c4
    obtain ⟨x, hx⟩ : ∃ x : ByteArray, x = ⟨(N.expX (N.L r.ex)).toArray⟩ := ⟨_, rfl⟩
    have hxL : N.L x = N.expX (N.L r.ex) := by rw [hx]
    have hxs : x.size ≤ 1000000000 := by
      have := expX_le (N.L r.ex)
      rw [← hxL, N.L_len, N.L_len] at this
      omega
    obtain ⟨pl, hpl⟩ : ∃ pl, pl = N.isPlus (N.L r.ex) := ⟨_, rfl⟩
    have hcut := fun W => Tryd.strings_CutPrefix r.ex ⟨#[43]⟩ W
    have e1 := (prefix_plus (N.L r.ex)).1
    have e2 := (prefix_plus (N.L r.ex)).2
    change ∀ W, Calls _ _ _ W fun e w' => e = .returned (.tuple #[.string ⟨(Lib.trimPrefix (N.L r.ex) [43]).toArray⟩, .bool (Lib.hasPrefix (N.L r.ex) [43])]) ∧ w' = W at hcut
    rw [e1, e2, ← hx, ← hpl] at hcut
    rw [← hpl]
    have hE : N.expE true (N.L r.ex) = if (N.L x).dropWhile N.is0 ≠ [] ∨ N.sp N.is0 (N.L x) = 0 then 4 else if 9 < N.sp N.is0 (N.L x) then 8 else 0 := by
      rw [hxL]; rfl
    rw [hE, ← hxL]
    have hsp := spans_one 48 (by decide) x
    obtain ⟨n, hn⟩ : ∃ n, n = N.sp N.is0 (N.L x) := ⟨_, rfl⟩
    obtain ⟨al, hal⟩ : ∃ al, al = ((N.L x).dropWhile N.is0).isEmpty := ⟨_, rfl⟩
    have hsp2 : ∀ (k : Nat) (W : World), W.cell? ⟨k, 0, none⟩ = some (.int .i32 48) → Calls Tryd.prog 34 #[.string x, .slice (some ⟨W.heap.size, 0, none⟩) 1 1] (W.alloc (.cells #[.func (.func 50) #[] #[.pointer (some ⟨k, 0, none⟩)]] 58)) fun e w' =>
      ∃ (g cap : Nat) (cur : Array Value), e = .returned (.tuple #[.slice (some ⟨g, 0, none⟩) 1 cap, .bool al]) ∧ w'.heap[g]? = some (.cells cur 3 (0, 0)) ∧ cur[0]? = some (.int .i64 (n : Int)) ∧ W.heap.size ≤ g ∧ Below W.heap.size W w' := fun k W hk => by
        rw [hn, hal]
        exact hsp k W hk hxs
    rw [← hn]
    have hal2 : ((N.L x).dropWhile N.is0 ≠ []) ↔ al = false := by
      rw [hal]
      cases (N.L x).dropWhile N.is0 <;> simp
    have HSC := Lib.hid hsc
    have HH := Lib.hid h
    have HS := Lib.hid hsp2
    have HC := Lib.hid hcut
    have HAL := Lib.hid hal2
    have hia := fun (g cap : Nat) W => idx_ints 1 cap 0 g W (by omega)
    have hlt := blk_lt h
    have hE2 : Hid (∀ z : Int, (if al = false ∨ n = 0 then 4 else if 9 < n then 8 else 0) = z → (if (N.L x).dropWhile N.is0 ≠ [] ∨ n = 0 then (4 : Int) else if 9 < n then 8 else 0) = z) := Lib.hid fun z hz => by rw [← hz]; simp only [hal2]
    clear hE hxL hx hpl hcut e1 e2 hsp hn hal hsp2 hal2 h hsc
    by_cases h1 : al = false ∨ n = 0
    · rw [hE2.out 4 (by rw [if_pos h1])]
      have HP : Hid (¬ ((4 : Int) = 0)) := Lib.hid (by decide)
      rcases h1 with rfl | rfl
      · go_enter Tryd.func18, Tryd.ntmps18
        go_wp2_with (first
        | (go_at_call 33; (with_reducible refine (HC.out _).mono ?_); rintro e W1 ⟨rfl, rfl⟩)
        | (go_at_call 35; (with_reducible refine (one_calls 48 _).mono ?_); rintro e W2 ⟨rfl, hW2⟩; have hk2 := one_cell hW2; have HB2 := Lib.hid (one_below hW2); clear hW2)
        | (go_at_call 34; (with_reducible refine (HS.out _ _ hk2).mono ?_); rintro e W3 ⟨g, cap, cur, rfl, hg3, hcur, hgs, hb3⟩; have HR3 := Lib.hid (heap_keeps hb3 (heap_keeps HB2.out HH.out)); have hn0 := (blk_cell hg3 0).trans hcur; have hia := hia g cap; have HM3 := Lib.hid ((Mid.of (b := b) HB2.out).step hb3); clear hg3 hcur hb3))
        go_ret
        exact ⟨rfl, HM3.out, fun h0 => absurd h0 HP.out⟩
      · go_enter Tryd.func18, Tryd.ntmps18
        go_wp2_with (first
        | (go_at_call 33; (with_reducible refine (HC.out _).mono ?_); rintro e W1 ⟨rfl, rfl⟩)
        | (go_at_call 35; (with_reducible refine (one_calls 48 _).mono ?_); rintro e W2 ⟨rfl, hW2⟩; have hk2 := one_cell hW2; have HB2 := Lib.hid (one_below hW2); clear hW2)
        | (go_at_call 34; (with_reducible refine (HS.out _ _ hk2).mono ?_); rintro e W3 ⟨g, cap, cur, rfl, hg3, hcur, hgs, hb3⟩; have HR3 := Lib.hid (heap_keeps hb3 (heap_keeps HB2.out HH.out)); have hn0 := (blk_cell hg3 0).trans hcur; have hia := hia g cap; have HM3 := Lib.hid ((Mid.of (b := b) HB2.out).step hb3); clear hg3 hcur hb3))
        all_goals (go_ret; exact ⟨rfl, HM3.out, fun h0 => absurd h0 HP.out⟩)
    · rw [hE2.out (if 9 < n then 8 else 0) (by rw [if_neg h1])]
      have ha : al = true := by
        cases al with
        | true => rfl
        | false => exact absurd (.inl rfl) h1
      have hnz : ((n : Int) == 0) = false := beq_eq_false_iff_ne.2 (fun e => h1 (.inr (by omega)))
      subst ha
      clear h1
      by_cases h9 : 9 < n
      · rw [if_pos h9]
        have hg9 : decide ((9 : Int) < (n : Int)) = true := decide_eq_true (by omega)
        have HP : Hid (¬ ((8 : Int) = 0)) := Lib.hid (by decide)
        clear h9
        go_enter Tryd.func18, Tryd.ntmps18
        go_wp2_with (first
        | (go_at_call 33; (with_reducible refine (HC.out _).mono ?_); rintro e W1 ⟨rfl, rfl⟩)
        | (go_at_call 35; (with_reducible refine (one_calls 48 _).mono ?_); rintro e W2 ⟨rfl, hW2⟩; have hk2 := one_cell hW2; have HB2 := Lib.hid (one_below hW2); clear hW2)
        | (go_at_call 34; (with_reducible refine (HS.out _ _ hk2).mono ?_); rintro e W3 ⟨g, cap, cur, rfl, hg3, hcur, hgs, hb3⟩; have HR3 := Lib.hid (heap_keeps hb3 (heap_keeps HB2.out HH.out)); have hn0 := (blk_cell hg3 0).trans hcur; have hia := hia g cap; have HM3 := Lib.hid ((Mid.of (b := b) HB2.out).step hb3); clear hg3 hcur hb3))
        go_ret
        exact ⟨rfl, HM3.out, fun h0 => absurd h0 HP.out⟩
      · rw [if_neg h9]
        have hg9 : decide ((9 : Int) < (n : Int)) = false := decide_eq_false (by omega)
        clear h9
        go_enter Tryd.func18, Tryd.ntmps18
        go_wp2_with (first
        | (go_at_call 33; (with_reducible refine (HC.out _).mono ?_); rintro e W1 ⟨rfl, rfl⟩)
        | (go_at_call 35; (with_reducible refine (one_calls 48 _).mono ?_); rintro e W2 ⟨rfl, hW2⟩; have hk2 := one_cell hW2; have HB2 := Lib.hid (one_below hW2); clear hW2)
        | (go_at_call 34; (with_reducible refine (HS.out _ _ hk2).mono ?_); rintro e W3 ⟨g, cap, cur, rfl, hg3, hcur, hgs, hb3⟩; have HR3 := Lib.hid (heap_keeps hb3 (heap_keeps HB2.out HH.out)); have hn0 := (blk_cell hg3 0).trans hcur; have hia := hia g cap; have HM3 := Lib.hid ((Mid.of (b := b) HB2.out).step hb3); have hrf := blk_frozen HR3.out; have hc19 : W3.cell? ⟨b, 19, none⟩ = some (.bool r.ps) := blk_cell HR3.out 19; have hc20 : W3.cell? ⟨b, 20, none⟩ = some (.int .i64 r.me) := blk_cell HR3.out 20; have hc21 : W3.cell? ⟨b, 21, none⟩ = some (.bool r.pp) := blk_cell HR3.out 21; clear hg3 hcur hb3))
        go_ret
        refine ⟨rfl, ((HM3.out.set _ _).set _ _).set _ _, fun _ => ?_⟩
        rw [IsRd, blk_set (blk_set (blk_set HR3.out 19 _) 21 _) 20 _]
        simp [rdV]
        exact HSC.out

/-! ### parts -/
theorem cut_eq (c : UInt8) : ∀ l : List UInt8, Lib.cut l [c] = N.cutC c l
  | [] => rfl
  | b :: r => by
    have ih := cut_eq c r
    have hge := Lib.index_ge r [c]
    unfold Lib.cut at ih ⊢
    have hi : Lib.index (b :: r) [c] = if [c].isPrefixOf (b :: r) then 0 else if Lib.index r [c] == -1 then -1 else Lib.index r [c] + 1 := rfl
    rw [hi]
    simp only [N.cutC]
    by_cases e : b = c
    · subst e
      have hp : [b].isPrefixOf (b :: r) = true := by simp [List.isPrefixOf]
      rw [hp]
      simp
    · have hp : [c].isPrefixOf (b :: r) = false := by simp [List.isPrefixOf]; exact fun h => e h.symm
      rw [hp, if_neg e, ← ih]
      simp only [Bool.false_eq_true, if_false]
      by_cases hm : Lib.index r [c] = -1
      · rw [hm]; rfl
      · have h1 : (Lib.index r [c] == -1) = false := beq_eq_false_iff_ne.2 hm
        rw [h1]
        simp only [Bool.false_eq_true, if_false]
        rw [if_pos (by omega), if_pos (by omega)]
        have e1 : (Lib.index r [c] + 1).toNat = (Lib.index r [c]).toNat + 1 := by omega
        rw [e1]
        simp [Nat.add_right_comm]
theorem indexByte_mem (l : List UInt8) (c : UInt8) : decide (0 ≤ Lib.indexByte l c) = decide (c ∈ l) := by
  by_cases h : c ∈ l
  · rw [decide_eq_true h]
    refine decide_eq_true ?_
    have hge := Lib.indexByte_ge l c
    refine Decidable.byContradiction fun hn => ?_
    have := Lib.indexByte_none (show Lib.indexByte l c = -1 by omega)
    obtain ⟨k, hk⟩ := List.getElem?_of_mem h
    exact this k hk
  · rw [decide_eq_false h, no_byte l c h]
    rfl
def mkB (l : List UInt8) : ByteArray := ⟨l.toArray⟩
theorem mkB_L (s : ByteArray) : mkB (N.L s) = s := Lib.mk_data s
theorem L_mkB (l : List UInt8) : N.L (mkB l) = l := by simp [N.L, mkB]
theorem mkB_size (l : List UInt8) : (mkB l).size = l.length := by simp [mkB, ByteArray.size]
theorem cut_calls (s : ByteArray) (c : UInt8) (w : World) (hT : Tabs w) (hs : s.size ≤ 1000000000) : Calls Tryd.prog 17 #[.string s, .string ⟨#[c]⟩] w fun e w' =>
    e = .returned (.tuple #[.string (mkB (N.cutC c (N.L s)).1), .string (mkB (N.cutC c (N.L s)).2.1), .bool (N.cutC c (N.L s)).2.2]) ∧ Below w.heap.size w w' := by
  obtain ⟨m, hm⟩ := hT
  refine (Tryd.strings_Cut s ⟨#[c]⟩ m w (by omega) hm).mono fun e w' ⟨he, n, hw⟩ => ⟨?_, hw ▸ Drawn0.below ⟨⟨n, rfl⟩⟩⟩
  rw [he, show (⟨#[c]⟩ : ByteArray).data.toList = [c] from rfl, cut_eq]
  rfl
theorem cutC_le (c : UInt8) (l : List UInt8) : (N.cutC c l).1.length ≤ l.length ∧ (N.cutC c l).2.1.length ≤ l.length := by
  have := N.cut_len c l
  have h2 := (N.cutC_is c l).2
  split at h2
  · rename_i h; rw [if_pos h] at this; omega
  · rename_i h; rw [if_neg h] at this; rw [h2.2]; exact ⟨by omega, Nat.zero_le _⟩
def partsR (r : RD) (s : ByteArray) : RD := { r with wh := mkB (N.cutC 46 (N.L s)).1, fr := mkB (N.cutC 46 (N.L s)).2.1, pt := (N.cutC 46 (N.L s)).2.2 }
theorem parts_set {W : World} {b : Nat} {r : RD} (h : IsRd W b r) (x y : ByteArray) (p : Bool) : IsRd (((W.setCell ⟨b, 0, none⟩ (.string x)).setCell ⟨b, 1, none⟩ (.string y)).setCell ⟨b, 3, none⟩ (.bool p)) b { r with wh := x, fr := y, pt := p } := by
  rw [IsRd, blk_set (blk_set (blk_set h 0 _) 1 _) 3 _]
  simp [rdV]
set_option maxHeartbeats 4000000 in
set_option maxRecDepth 1000000 in
theorem parts_calls (r : RD) (b : Nat) (s : ByteArray) (w : World) (h : IsRd w b r) (hT : Tabs w) (hs : s.size ≤ 1000000000) :
    Calls Tryd.prog 19 #[.pointer (some ⟨b, 0, none⟩), .string s] w fun e w' => e = .returned (.int .i64 (N.partsE (N.L s))) ∧ Mid b w w' ∧ Then (N.partsE (N.L s)) (IsRd w' b (partsR r s)) := by
  obtain ⟨o, ho⟩ : ∃ o, o = (N.L s).any N.odd := ⟨_, rfl⟩
  obtain ⟨n, hn⟩ : ∃ n, n = (N.L s).count 46 := ⟨_, rfl⟩
  have hcf : ∀ W, Calls Tryd.prog 39 #[.string s, .func (.func 36) #[] #[]] W fun e w' => e = .returned (.bool o) ∧ Below W.heap.size W w' := fun W => by
    rw [ho, ← N.contains_is N.pOdd N.odd s (N.odd_sort s)]
    exact Tryd.strings_ContainsFunc_grows _ _ strange_enters N.pOdd s W (strange_pred W)
  have hct : ∀ W, Calls Tryd.prog 40 #[.string s, .string ⟨#[46]⟩] W fun e w' => e = .returned (.int .i64 (n : Int)) ∧ w' = W := fun W => by
    rw [hn]
    exact Tryd.strings_Count_one s 46 W
  have hlt := blk_lt h
  have HT := Lib.hid hT
  have HH := Lib.hid h
  have hlf := blk_frozen h
  have hc0 : w.cell? ⟨b, 0, none⟩ = some (.string r.wh) := blk_cell h 0
  have hc1 : w.cell? ⟨b, 1, none⟩ = some (.string r.fr) := blk_cell h 1
  have hc3 : w.cell? ⟨b, 3, none⟩ = some (.bool r.pt) := blk_cell h 3
  unfold N.partsE partsR
  rw [← ho, ← hn]
  clear h hT ho hn
  cases o with
  | true =>
    rw [if_pos (.inl rfl)]
    have HP : Hid (¬ ((4 : Int) = 0)) := Lib.hid (by decide)
    go_enter Tryd.func19, Tryd.ntmps19
    go_wp2_with (first | (go_at_call 39; (with_reducible refine (hcf _).mono ?_); rintro e W1 ⟨rfl, b1⟩) | (go_at_call 40; (with_reducible refine (hct _).mono ?_); rintro e W2 ⟨rfl, rfl⟩))
    go_ret
    exact ⟨rfl, Mid.of b1, fun h0 => absurd h0 HP.out⟩
  | false =>
    by_cases h1 : 1 < n
    · rw [if_pos (.inr h1)]
      have HP : Hid (¬ ((4 : Int) = 0)) := Lib.hid (by decide)
      have hg : decide ((1 : Int) < (n : Int)) = true := decide_eq_true (by omega)
      clear h1
      go_enter Tryd.func19, Tryd.ntmps19
      go_wp2_with (first | (go_at_call 39; (with_reducible refine (hcf _).mono ?_); rintro e W1 ⟨rfl, b1⟩) | (go_at_call 40; (with_reducible refine (hct _).mono ?_); rintro e W2 ⟨rfl, rfl⟩))
      go_ret
      exact ⟨rfl, Mid.of b1, fun h0 => absurd h0 HP.out⟩
    · rw [if_neg (by simp only [Bool.false_eq_true, false_or]; exact h1)]
      have hg : decide ((1 : Int) < (n : Int)) = false := decide_eq_false (by omega)
      have hcut := fun W hT => cut_calls s 46 W hT hs
      obtain ⟨x, hx⟩ : ∃ x, x = mkB (N.cutC 46 (N.L s)).1 := ⟨_, rfl⟩
      obtain ⟨y, hy⟩ : ∃ y, y = mkB (N.cutC 46 (N.L s)).2.1 := ⟨_, rfl⟩
      obtain ⟨p, hp⟩ : ∃ p, p = (N.cutC 46 (N.L s)).2.2 := ⟨_, rfl⟩
      have hye : y.toList.isEmpty = decide ((N.cutC 46 (N.L s)).2.1 = []) := by
        rw [hy, Lib.toList_data, show (mkB (N.cutC 46 (N.L s)).2.1).data.toList = N.L (mkB (N.cutC 46 (N.L s)).2.1) from rfl, L_mkB]
        cases (N.cutC 46 (N.L s)).2.1 <;> simp
      rw [← hx, ← hy, ← hp] at hcut ⊢
      obtain ⟨em, hem⟩ : ∃ em, em = decide ((N.cutC 46 (N.L s)).2.1 = []) := ⟨_, rfl⟩
      rw [← hem] at hye
      have HE : Hid (∀ q : Int, (if p = true ∧ em = true then 4 else 0) = q → (if p = true ∧ (N.cutC 46 (N.L s)).2.1 = [] then (4 : Int) else 0) = q) := Lib.hid fun q hq => by
        rw [← hq, hem]
        simp only [decide_eq_true_eq]
      have HC := Lib.hid hcut
      clear h1 hx hy hp hem hcut
      cases p with
      | false =>
        rw [HE.out 0 rfl]
        go_enter Tryd.func19, Tryd.ntmps19
        go_wp2_with (first | (go_at_call 39; (with_reducible refine (hcf _).mono ?_); rintro e W1 ⟨rfl, b1⟩) | (go_at_call 40; (with_reducible refine (hct _).mono ?_); rintro e W2 ⟨rfl, rfl⟩) | (go_at_call 17; (with_reducible refine (HC.out _ (Tabs_below HT.out b1)).mono ?_); rintro e W3 ⟨rfl, b3⟩; have HR3 := Lib.hid (heap_keeps b3 (heap_keeps b1 HH.out)); have hrf := blk_frozen HR3.out; have HM3 := Lib.hid ((Mid.of (b := b) b1).step b3); have hx0 : W3.cell? ⟨b, 0, none⟩ = some (.string r.wh) := blk_cell HR3.out 0; have hx1 : W3.cell? ⟨b, 1, none⟩ = some (.string r.fr) := blk_cell HR3.out 1; have hx3 : W3.cell? ⟨b, 3, none⟩ = some (.bool r.pt) := blk_cell HR3.out 3))
        go_ret
        exact ⟨rfl, ((HM3.out.set _ _).set _ _).set _ _, fun _ => parts_set HR3.out x y false⟩
      | true =>
        cases em with
        | true =>
          rw [HE.out 4 rfl]
          have HP : Hid (¬ ((4 : Int) = 0)) := Lib.hid (by decide)
          go_enter Tryd.func19, Tryd.ntmps19
          go_wp2_with (first | (go_at_call 39; (with_reducible refine (hcf _).mono ?_); rintro e W1 ⟨rfl, b1⟩) | (go_at_call 40; (with_reducible refine (hct _).mono ?_); rintro e W2 ⟨rfl, rfl⟩) | (go_at_call 17; (with_reducible refine (HC.out _ (Tabs_below HT.out b1)).mono ?_); rintro e W3 ⟨rfl, b3⟩; have HR3 := Lib.hid (heap_keeps b3 (heap_keeps b1 HH.out)); have hrf := blk_frozen HR3.out; have HM3 := Lib.hid ((Mid.of (b := b) b1).step b3); have hx0 : W3.cell? ⟨b, 0, none⟩ = some (.string r.wh) := blk_cell HR3.out 0; have hx1 : W3.cell? ⟨b, 1, none⟩ = some (.string r.fr) := blk_cell HR3.out 1; have hx3 : W3.cell? ⟨b, 3, none⟩ = some (.bool r.pt) := blk_cell HR3.out 3))
          go_ret
          exact ⟨rfl, ((HM3.out.set _ _).set _ _).set _ _, fun h0 => absurd h0 HP.out⟩
        | false =>
          rw [HE.out 0 rfl]
          go_enter Tryd.func19, Tryd.ntmps19
          go_wp2_with (first | (go_at_call 39; (with_reducible refine (hcf _).mono ?_); rintro e W1 ⟨rfl, b1⟩) | (go_at_call 40; (with_reducible refine (hct _).mono ?_); rintro e W2 ⟨rfl, rfl⟩) | (go_at_call 17; (with_reducible refine (HC.out _ (Tabs_below HT.out b1)).mono ?_); rintro e W3 ⟨rfl, b3⟩; have HR3 := Lib.hid (heap_keeps b3 (heap_keeps b1 HH.out)); have hrf := blk_frozen HR3.out; have HM3 := Lib.hid ((Mid.of (b := b) b1).step b3); have hx0 : W3.cell? ⟨b, 0, none⟩ = some (.string r.wh) := blk_cell HR3.out 0; have hx1 : W3.cell? ⟨b, 1, none⟩ = some (.string r.fr) := blk_cell HR3.out 1; have hx3 : W3.cell? ⟨b, 3, none⟩ = some (.bool r.pt) := blk_cell HR3.out 3))
          go_ret
          exact ⟨rfl, ((HM3.out.set _ _).set _ _).set _ _, fun _ => parts_set HR3.out x y true⟩
end Go.Proofs.YtgobcejjefgkcaaDoor.Print
