/- What the reference's small functions answer as printed functions: count, cut, rows, Strip. -/
import Derived.Test.YtkgdpgoianimjaaKb
import Derived.Test.YtkgdpgoianimjaaPrint4
namespace Go.Proofs.Ytkgdpgoianimjaa.Print
open Go.RowKit Go.Proofs.YtkgdpgoianimjaaW.PrintWords Go.Proofs.YtkgdpgoianimjaaW.PrintLast Go.Proofs.YtkgdpgoianimjaaW.PrintMore
set_option linter.unusedVariables false
set_option linter.unusedSimpArgs false

theorem wq {x : Int} (h0 : -9223372036854775808 ≤ x) (h1 : x ≤ 9223372036854775807) : wrap64 x = x := by unfold wrap64; omega
theorem bt_here (s : ByteArray) (i : Nat) (b : UInt8) (h : (N.L s)[i]? = some b) : bt s (i : Int) = (b.toNat : Int) := by
  obtain ⟨h1, h2⟩ := List.getElem?_eq_some_iff.1 h
  rw [N.L_len] at h1
  unfold bt
  rw [dif_pos (by simpa using h1)]
  have : s[i]'h1 = b := h2
  simp only [Int.toNat_natCast]
  rw [this]
/-- Of a sort: 48 for digits. -/
def ofC (c : UInt8) (b : UInt8) : Bool := b == c || (c == 48 && N.dig b)
theorem drop_get (l : List UInt8) (i : Nat) (h : i < l.length) : ∃ b, l[i]? = some b ∧ l.drop i = b :: l.drop (i + 1) := by
  refine ⟨l[i], List.getElem?_eq_getElem h, List.drop_eq_getElem_cons h⟩
theorem count_l0 (s : ByteArray) (c : UInt8) (hs : s.size ≤ 1000000000) : ∀ (n i acc k : Nat), i + n = s.size → n < k → acc ≤ i →
    figureheadref13_count.l0 k s (c.toNat : Int) (acc : Int) (i : Int) = some ((acc + ((N.L s).drop i).countP (ofC c) : Nat) : Int)
  | 0, i, acc, k, hi, hk, ha => by
    obtain ⟨k, rfl⟩ : ∃ j, k = j + 1 := ⟨k - 1, by omega⟩
    unfold figureheadref13_count.l0
    rw [if_neg (by omega), List.drop_of_length_le (by rw [N.L_len]; omega)]
    rfl
  | n + 1, i, acc, k, hi, hk, ha => by
    obtain ⟨k, rfl⟩ : ∃ j, k = j + 1 := ⟨k - 1, by omega⟩
    obtain ⟨b, hb, hd⟩ := drop_get (N.L s) i (by rw [N.L_len]; omega)
    have e1 : wrap64 ((acc : Int) + 1) = ((acc + 1 : Nat) : Int) := by rw [wq (by omega) (by omega)]; omega
    have e2 : wrap64 ((i : Int) + 1) = ((i + 1 : Nat) : Int) := by rw [wq (by omega) (by omega)]; omega
    have ih1 := count_l0 s c hs n (i + 1) (acc + 1) k (by omega) (by omega) (by omega)
    have ih0 := count_l0 s c hs n (i + 1) acc k (by omega) (by omega) (by omega)
    unfold figureheadref13_count.l0
    rw [if_pos (by omega), if_pos (by omega), bt_here s i b hb, e1, e2, hd, List.countP_cons]
    by_cases h1 : b = c
    · rw [if_pos (by rw [h1]), ih1]
      have : ofC c b = true := by unfold ofC; rw [h1]; simp
      rw [this]
      congr 2
      simp; omega
    · have hne : ¬ ((b.toNat : Int) = (c.toNat : Int)) := fun e => h1 (UInt8.toNat_inj.1 (by omega))
      rw [if_neg hne]
      by_cases h2 : c = 48
      · have hc : (c.toNat : Int) = 48 := by rw [h2]; rfl
        rw [if_pos hc]
        by_cases h3 : 48 ≤ b.toNat
        · rw [if_pos (by omega)]
          by_cases h4 : b.toNat ≤ 57
          · rw [if_pos (by omega), ih1]
            have : ofC c b = true := by unfold ofC N.dig; rw [h2]; simp [h3, h4]
            rw [this]
            congr 2
            simp; omega
          · rw [if_neg (by omega), ih0]
            have : ofC c b = false := by unfold ofC N.dig; rw [beq_eq_false_iff_ne.2 h1]; simp [h4]
            rw [this]; simp
        · rw [if_neg (by omega), ih0]
          have : ofC c b = false := by unfold ofC N.dig; rw [beq_eq_false_iff_ne.2 h1]; simp [h3]
          rw [this]; simp
      · have hc : ¬ ((c.toNat : Int) = 48) := fun e => h2 (UInt8.toNat_inj.1 (by have : c.toNat = 48 := by omega
                                                                                 rw [this]; rfl))
        rw [if_neg hc, ih0]
        have : ofC c b = false := by unfold ofC; rw [beq_eq_false_iff_ne.2 h1, beq_eq_false_iff_ne.2 h2]; rfl
        rw [this]; simp
theorem count_ev (s : ByteArray) (c : UInt8) (hs : s.size ≤ 1000000000) (k : Nat) (hk : s.size < k) : figureheadref13_count.f k s (c.toNat : Int) = some (((N.L s).countP (ofC c) : Nat) : Int) := by
  have := count_l0 s c hs s.size 0 0 k (by omega) hk (by omega)
  simpa [figureheadref13_count.f] using this
theorem cut_l0 (s : ByteArray) (c : UInt8) (hs : s.size ≤ 1000000000) : ∀ (n i k : Nat), i + n = s.size → n < k → c ∉ (N.L s).take i →
    figureheadref13_cut.l0 k s (c.toNat : Int) (i : Int) = some (mkB (N.cutC c (N.L s)).1, mkB (N.cutC c (N.L s)).2.1, (N.cutC c (N.L s)).2.2)
  | 0, i, k, hi, hk, hn => by
    obtain ⟨k, rfl⟩ : ∃ j, k = j + 1 := ⟨k - 1, by omega⟩
    unfold figureheadref13_cut.l0
    rw [List.take_of_length_le (by rw [N.L_len]; omega)] at hn
    rw [if_neg (by omega), N.cutC_none c _ hn, mkB_L]
    rfl
  | n + 1, i, k, hi, hk, hn => by
    obtain ⟨k, rfl⟩ : ∃ j, k = j + 1 := ⟨k - 1, by omega⟩
    obtain ⟨b, hb, hd⟩ := drop_get (N.L s) i (by rw [N.L_len]; omega)
    have e2 : wrap64 ((i : Int) + 1) = ((i + 1 : Nat) : Int) := by rw [wq (by omega) (by omega)]; omega
    unfold figureheadref13_cut.l0
    rw [if_pos (by omega), if_pos (by omega), bt_here s i b hb, e2]
    by_cases h1 : b = c
    · rw [if_pos (by rw [h1]), if_pos (by omega), if_pos (by omega), if_pos (by omega), Int.toNat_natCast, Int.toNat_natCast]
      have he : N.L s = (N.L s).take i ++ c :: (N.L s).drop (i + 1) := by rw [← h1, ← hd, List.take_append_drop]
      have hc := N.cutC_at c ((N.L s).take i) ((N.L s).drop (i + 1)) hn
      rw [← he] at hc
      rw [hc]
      have a1 : s.extract 0 i = mkB ((N.L s).take i) := by
        have := congrArg mkB (L_ext s 0 i)
        rwa [mkB_L, List.drop_zero, Nat.sub_zero] at this
      have a2 : s.extract (i + 1) s.size = mkB ((N.L s).drop (i + 1)) := by
        have := congrArg mkB (N.L_extD s (i + 1))
        rwa [mkB_L] at this
      rw [a1, a2]
    · have hne : ¬ ((b.toNat : Int) = (c.toNat : Int)) := fun e => h1 (UInt8.toNat_inj.1 (by omega))
      rw [if_neg hne]
      refine cut_l0 s c hs n (i + 1) k (by omega) (by omega) (fun hm => ?_)
      rw [List.take_add_one, hb] at hm
      rcases List.mem_append.1 hm with hm | hm
      · exact hn hm
      · simp at hm; exact h1 hm.symm
theorem cut_ev (s : ByteArray) (c : UInt8) (hs : s.size ≤ 1000000000) (k : Nat) (hk : s.size < k) : figureheadref13_cut.f k s (c.toNat : Int) = some (mkB (N.cutC c (N.L s)).1, mkB (N.cutC c (N.L s)).2.1, (N.cutC c (N.L s)).2.2) :=
  cut_l0 s c hs s.size 0 k (by omega) hk (by simp)
theorem strip_l0 : ∀ (n k : Nat) (s : ByteArray), s.size = n → n < k → figureheadref13_Strip.l0 k s = some (mkB ((N.L s).dropWhile N.is0))
  | 0, k, s, hn, hk => by
    obtain ⟨k, rfl⟩ : ∃ j, k = j + 1 := ⟨k - 1, by omega⟩
    have : N.L s = [] := List.eq_nil_of_length_eq_zero (by rw [N.L_len]; exact hn)
    unfold figureheadref13_Strip.l0
    rw [if_neg (by omega), this]
    have := mkB_L s
    rw [‹N.L s = []›] at this
    rw [← this]; rfl
  | n + 1, k, s, hn, hk => by
    obtain ⟨k, rfl⟩ : ∃ j, k = j + 1 := ⟨k - 1, by omega⟩
    obtain ⟨b, hb, hd⟩ := drop_get (N.L s) 0 (by rw [N.L_len]; omega)
    rw [List.drop_zero] at hd
    have hbt := bt_here s 0 b hb
    unfold figureheadref13_Strip.l0
    rw [if_pos (by omega), if_pos (by omega)]
    rw [show bt s 0 = (b.toNat : Int) from hbt]
    have hx : s.extract 1 s.size = mkB ((N.L s).drop 1) := by
      have := congrArg mkB (N.L_extD s 1)
      rwa [mkB_L] at this
    by_cases h1 : b = 48
    · rw [if_pos (by rw [h1]; rfl), if_pos (by omega), hx, strip_l0 n k _ (by rw [mkB_size, List.length_drop, N.L_len]; omega) (by omega), L_mkB]
      conv => rhs; rw [hd, List.dropWhile_cons, if_pos (by rw [h1]; rfl)]
    · rw [if_neg (fun e => h1 (UInt8.toNat_inj.1 (by have : b.toNat = 48 := by omega
                                                     rw [this]; rfl)))]
      rw [hd, List.dropWhile_cons, if_neg (by rw [N.is0_iff]; exact h1), ← hd, mkB_L]
theorem strip_ev (s : ByteArray) (k : Nat) (hk : s.size < k) : figureheadref13_Strip.f k s = some (mkB ((N.L s).dropWhile N.is0)) := strip_l0 s.size k s rfl hk
/-! ### rows -/
def rowR (A B C : UInt8 → Bool) : Nat → List UInt8 → Bool
  | 0, l => (((l.dropWhile A).dropWhile B).dropWhile C).isEmpty
  | 1, l => ((l.dropWhile B).dropWhile C).isEmpty
  | 2, l => (l.dropWhile C).isEmpty
  | _, l => l.isEmpty
def sortAt (A B C : UInt8 → Bool) : Nat → UInt8 → Bool
  | 0 => A
  | 1 => B
  | _ => C
theorem rowR_nil (A B C : UInt8 → Bool) : ∀ k, rowR A B C k [] = true
  | 0 => rfl
  | 1 => rfl
  | 2 => rfl
  | _ + 3 => rfl
theorem rowR_yes (A B C : UInt8 → Bool) (b : UInt8) (l : List UInt8) : ∀ k, k < 3 → sortAt A B C k b = true → rowR A B C k (b :: l) = rowR A B C k l
  | 0, _, h => by
    have h' : A b = true := h
    simp only [rowR, List.dropWhile_cons, h', if_true]
  | 1, _, h => by
    have h' : B b = true := h
    simp only [rowR, List.dropWhile_cons, h', if_true]
  | 2, _, h => by
    have h' : C b = true := h
    simp only [rowR, List.dropWhile_cons, h', if_true]
theorem rowR_no (A B C : UInt8 → Bool) (b : UInt8) (l : List UInt8) : ∀ k, k < 3 → sortAt A B C k b = false → rowR A B C k (b :: l) = rowR A B C (k + 1) (b :: l)
  | 0, _, h => by
    have h' : A b = false := h
    simp only [rowR, List.dropWhile_cons, h', Bool.false_eq_true, if_false]
  | 1, _, h => by
    have h' : B b = false := h
    simp only [rowR, List.dropWhile_cons, h', Bool.false_eq_true, if_false]
  | 2, _, h => by
    have h' : C b = false := h
    simp only [rowR, List.dropWhile_cons, h', Bool.false_eq_true, if_false]
def pick3 (a b c : UInt8) : Nat → UInt8
  | 0 => a
  | 1 => b
  | _ => c
theorem rd_at (a b c : UInt8) : ∀ k : Nat, k < 3 → rd [(a.toNat : Int), (b.toNat : Int), (c.toNat : Int)] (k : Int) = ((pick3 a b c k).toNat : Int)
  | 0, _ => rfl
  | 1, _ => rfl
  | 2, _ => rfl
theorem one_count (s : ByteArray) (i : Nat) (b c : UInt8) (hb : (N.L s)[i]? = some b) (k : Nat) (hk : 1 < k) : figureheadref13_count.f k (s.extract i (i + 1)) (c.toNat : Int) = some (if ofC c b = true then 1 else 0) := by
  have h1 := (List.getElem?_eq_some_iff.1 hb).1
  rw [N.L_len] at h1
  have hz : (s.extract i (i + 1)).size = 1 := by rw [ByteArray.size_extract]; omega
  have hl : N.L (s.extract i (i + 1)) = [b] := by
    rw [L_ext, Nat.add_sub_cancel_left]
    obtain ⟨b', hb', hd⟩ := drop_get (N.L s) i (by rw [N.L_len]; exact h1)
    rw [hb] at hb'
    obtain rfl := Option.some.inj hb'
    rw [hd]; rfl
  rw [count_ev _ c (by rw [hz]; omega) k (by rw [hz]; exact hk), hl]
  rw [List.countP_cons, List.countP_nil]
  cases ofC c b <;> rfl
theorem rows_l (s : ByteArray) (a b c : UInt8) (hs : s.size ≤ 1000000000) : ∀ (F n i kk : Nat), i + n = s.size → kk ≤ 3 →
    (2 * n + (3 - kk) + 5 ≤ F → figureheadref13_rows.l0 F s [(a.toNat : Int), (b.toNat : Int), (c.toNat : Int)] (kk : Int) (i : Int) = some (rowR (ofC a) (ofC b) (ofC c) kk ((N.L s).drop i))) ∧
    (0 < n → 2 * n + (3 - kk) + 4 ≤ F → figureheadref13_rows.l1 F s [(a.toNat : Int), (b.toNat : Int), (c.toNat : Int)] (kk : Int) (i : Int) = some (rowR (ofC a) (ofC b) (ofC c) kk ((N.L s).drop i)))
  | 0, n, i, kk, hi, hk => ⟨fun h => by omega, fun _ h => by omega⟩
  | F + 1, n, i, kk, hi, hk => by
    refine ⟨fun h => ?_, fun hn h => ?_⟩
    · unfold figureheadref13_rows.l0
      by_cases hl : i < s.size
      · rw [if_pos (by omega)]
        exact (rows_l s a b c hs F n i kk hi hk).2 (by omega) (by omega)
      · rw [if_neg (by omega), List.drop_of_length_le (by rw [N.L_len]; omega), rowR_nil]
    · obtain ⟨y, hy, hd⟩ := drop_get (N.L s) i (by rw [N.L_len]; omega)
      have e2 : wrap64 ((i : Int) + 1) = ((i + 1 : Nat) : Int) := by rw [wq (by omega) (by omega)]; omega
      have e3 : wrap64 ((kk : Int) + 1) = ((kk + 1 : Nat) : Int) := by rw [wq (by omega) (by omega)]; omega
      unfold figureheadref13_rows.l1
      by_cases h3 : kk < 3
      · have hc := fun z => one_count s i y z hy F (by omega)
        have hsa : sortAt (ofC a) (ofC b) (ofC c) kk = ofC (pick3 a b c kk) := by
          match kk, h3 with
          | 0, _ => rfl
          | 1, _ => rfl
          | 2, _ => rfl
        rw [if_pos (by omega), if_pos (by omega), e2, if_pos (by omega), if_pos (by omega), if_pos (by omega), if_pos (by show (kk : Int) < 3; omega), rd_at a b c kk h3, Int.toNat_natCast, Int.toNat_natCast, hc, Option.bind_some, hd]
        by_cases hq : ofC (pick3 a b c kk) y = true
        · rw [if_pos hq, if_neg (by decide), if_neg (by omega), rowR_yes _ _ _ _ _ kk h3 (by rw [hsa]; exact hq)]
          exact (rows_l s a b c hs F (n - 1) (i + 1) kk (by omega) hk).1 (by omega)
        · have hq' : ofC (pick3 a b c kk) y = false := by simpa using hq
          rw [if_neg hq, if_pos (by decide), e3, rowR_no _ _ _ _ _ kk h3 (by rw [hsa]; exact hq'), ← hd]
          exact (rows_l s a b c hs F n i (kk + 1) hi (by omega)).2 hn (by omega)
      · obtain rfl : kk = 3 := by omega
        rw [if_neg (by omega), if_pos (show ((3 : Nat) : Int) = 3 from rfl), hd]
        rfl
theorem rows_ev (s : ByteArray) (a b c : UInt8) (hs : s.size ≤ 1000000000) (k : Nat) (hk : 2 * s.size + 8 ≤ k) : figureheadref13_rows.f k s (a.toNat : Int) (b.toNat : Int) (c.toNat : Int) = some (rowR (ofC a) (ofC b) (ofC c) 0 (N.L s)) := by
  have := (rows_l s a b c hs k s.size 0 0 (by omega) (by omega)).1 (by omega)
  simpa [figureheadref13_rows.f] using this

/-! ### in the plain law's words -/
theorem ofC_dig : ofC 48 = N.dig := by
  funext b
  unfold ofC N.dig
  by_cases h : b = 48
  · subst h; rfl
  · rw [beq_eq_false_iff_ne.2 h]; simp
theorem ofC_plain (c : UInt8) (h : c ≠ 48) : ofC c = fun b => b == c := by
  funext b
  unfold ofC
  rw [beq_eq_false_iff_ne.2 h]; simp
theorem count_plain (s : ByteArray) (c : UInt8) (h : c ≠ 48) (hs : s.size ≤ 1000000000) (k : Nat) (hk : s.size < k) : figureheadref13_count.f k s (c.toNat : Int) = some (((N.L s).count c : Nat) : Int) := by
  rw [count_ev s c hs k hk, ofC_plain c h]; rfl
theorem count_dig (s : ByteArray) (hs : s.size ≤ 1000000000) (k : Nat) (hk : s.size < k) : figureheadref13_count.f k s 48 = some (((N.L s).countP N.dig : Nat) : Int) := by
  have := count_ev s 48 hs k hk
  rwa [ofC_dig] at this
theorem dw_twice (a : UInt8 → Bool) (l : List UInt8) : (l.dropWhile a).dropWhile a = l.dropWhile a := N.dw_no a _ (fun c hc => N.dw_head a l c hc)
theorem rows_sig (s : ByteArray) (hs : s.size ≤ 1000000000) (k : Nat) (hk : 2 * s.size + 8 ≤ k) : figureheadref13_rows.f k s 35 64 35 = some ((((N.L s).dropWhile N.isH).dropWhile N.isA).dropWhile N.isH).isEmpty := by
  have := rows_ev s 35 64 35 hs k hk
  rw [ofC_plain 35 (by decide), ofC_plain 64 (by decide)] at this
  exact this
theorem rows_hd (s : ByteArray) (hs : s.size ≤ 1000000000) (k : Nat) (hk : 2 * s.size + 8 ≤ k) : figureheadref13_rows.f k s 35 48 48 = some (((N.L s).dropWhile N.isH).dropWhile N.dig).isEmpty := by
  have := rows_ev s 35 48 48 hs k hk
  rw [ofC_plain 35 (by decide), ofC_dig] at this
  refine this.trans ?_
  show some ((((N.L s).dropWhile N.isH).dropWhile N.dig).dropWhile N.dig).isEmpty = _
  rw [dw_twice]
theorem rows_dh (s : ByteArray) (hs : s.size ≤ 1000000000) (k : Nat) (hk : 2 * s.size + 8 ≤ k) : figureheadref13_rows.f k s 48 35 35 = some (((N.L s).dropWhile N.dig).dropWhile N.isH).isEmpty := by
  have := rows_ev s 48 35 35 hs k hk
  rw [ofC_plain 35 (by decide), ofC_dig] at this
  refine this.trans ?_
  show some ((((N.L s).dropWhile N.dig).dropWhile N.isH).dropWhile N.isH).isEmpty = _
  rw [dw_twice]
end Go.Proofs.Ytkgdpgoianimjaa.Print
/- The reference's small functions: their contracts in the plain functions' words. -/
namespace Go.Proofs.Ytkgdpgoianimjaa.Print
open Go.RowKit Go.Proofs.YtkgdpgoianimjaaW.PrintWords Go.Proofs.YtkgdpgoianimjaaW.PrintLast Go.Proofs.YtkgdpgoianimjaaW.PrintMore
set_option linter.unusedVariables false
set_option linter.unusedSimpArgs false

theorem rcut (s : ByteArray) (c : UInt8) (x : Int) (hx : x = (c.toNat : Int)) (hs : s.size ≤ 1000000000) (w : World) : Calls Try.prog 31 #[.string s, .int .u8 x] w fun e w' =>
    ∃ (a b : ByteArray) (f : Bool), e = .returned (.tuple #[.string a, .string b, .bool f]) ∧ a = mkB (N.cutC c (N.L s)).1 ∧ b = mkB (N.cutC c (N.L s)).2.1 ∧ f = (N.cutC c (N.L s)).2.2 ∧ Below w.heap.size w w' := by
  subst hx
  exact (figureheadref13_cut.calls (s.size + 1) s _ _ _ _ w (cut_ev s c hs _ (Nat.lt_succ_self _))).mono fun e w' ⟨he, hd⟩ => ⟨_, _, _, he, rfl, rfl, rfl, Drawn0.below hd⟩
theorem rcount (s : ByteArray) (c : UInt8) (x : Int) (hx : x = (c.toNat : Int)) (h : c ≠ 48) (hs : s.size ≤ 1000000000) (w : World) : Calls Try.prog 33 #[.string s, .int .u8 x] w fun e w' =>
    ∃ n : Nat, e = .returned (.int .i64 (n : Int)) ∧ n = (N.L s).count c ∧ Below w.heap.size w w' := by
  subst hx
  exact (figureheadref13_count.calls (s.size + 1) s _ _ w (count_plain s c h hs _ (Nat.lt_succ_self _))).mono fun e w' ⟨he, hd⟩ => ⟨_, he, rfl, Drawn0.below hd⟩
theorem rdigits (s : ByteArray) (hs : s.size ≤ 1000000000) (w : World) : Calls Try.prog 33 #[.string s, .int .u8 48] w fun e w' =>
    ∃ n : Nat, e = .returned (.int .i64 (n : Int)) ∧ n = (N.L s).countP N.dig ∧ Below w.heap.size w w' :=
  (figureheadref13_count.calls (s.size + 1) s _ _ w (count_dig s hs _ (Nat.lt_succ_self _))).mono fun e w' ⟨he, hd⟩ => ⟨_, he, rfl, Drawn0.below hd⟩
theorem rstrip (s : ByteArray) (w : World) : Calls Try.prog 32 #[.string s] w fun e w' =>
    ∃ b : ByteArray, e = .returned (.string b) ∧ b = mkB ((N.L s).dropWhile N.is0) ∧ Below w.heap.size w w' :=
  (figureheadref13_Strip.calls (s.size + 1) s _ w (strip_ev s _ (Nat.lt_succ_self _))).mono fun e w' ⟨he, hd⟩ => ⟨_, he, rfl, Drawn0.below hd⟩
theorem rrows_sig (s : ByteArray) (hs : s.size ≤ 1000000000) (w : World) : Calls Try.prog 34 #[.string s, .int .u8 35, .int .u8 64, .int .u8 35] w fun e w' =>
    ∃ b : Bool, e = .returned (.bool b) ∧ b = ((((N.L s).dropWhile N.isH).dropWhile N.isA).dropWhile N.isH).isEmpty ∧ Below w.heap.size w w' :=
  (figureheadref13_rows.calls (2 * s.size + 8) s _ _ _ _ w (rows_sig s hs _ (Nat.le_refl _))).mono fun e w' ⟨he, hd⟩ => ⟨_, he, rfl, hd⟩
theorem rrows_hd (s : ByteArray) (hs : s.size ≤ 1000000000) (w : World) : Calls Try.prog 34 #[.string s, .int .u8 35, .int .u8 48, .int .u8 48] w fun e w' =>
    ∃ b : Bool, e = .returned (.bool b) ∧ b = (((N.L s).dropWhile N.isH).dropWhile N.dig).isEmpty ∧ Below w.heap.size w w' :=
  (figureheadref13_rows.calls (2 * s.size + 8) s _ _ _ _ w (rows_hd s hs _ (Nat.le_refl _))).mono fun e w' ⟨he, hd⟩ => ⟨_, he, rfl, hd⟩
theorem rrows_dh (s : ByteArray) (hs : s.size ≤ 1000000000) (w : World) : Calls Try.prog 34 #[.string s, .int .u8 48, .int .u8 35, .int .u8 35] w fun e w' =>
    ∃ b : Bool, e = .returned (.bool b) ∧ b = (((N.L s).dropWhile N.dig).dropWhile N.isH).isEmpty ∧ Below w.heap.size w w' :=
  (figureheadref13_rows.calls (2 * s.size + 8) s _ _ _ _ w (rows_dh s hs _ (Nat.le_refl _))).mono fun e w' ⟨he, hd⟩ => ⟨_, he, rfl, hd⟩
end Go.Proofs.Ytkgdpgoianimjaa.Print
