/- What the library's functions over a function value answer, where that value looks at single bytes: plain Lean. -/
import Derived.Test.YtgobcejjefgkcaaDoorNu
import Derived.Shelf.GgClosure.StringsTrimFunc
import Derived.Lib.TrimUEq
import Derived.Lib.RuneBytes
import Derived.Lib.MapLaws
namespace Go.Proofs.YtgobcejjefgkcaaDoor.N
open Go.Lib
set_option linter.unusedVariables false
set_option linter.unusedSimpArgs false

abbrev L (s : ByteArray) : List UInt8 := s.data.toList
theorem L_len (s : ByteArray) : (L s).length = s.size := Array.length_toList
theorem dec_low (b : UInt8) (t : List UInt8) (h : b.toNat < 128) : decodeL (b :: t) = (b.toNat, 1) := by
  rw [decodeL_N]
  exact decodeN_ascii _ _ _ _ _ h
theorem dec_high (b : UInt8) (t : List UInt8) (h : 128 ≤ b.toNat) : 128 ≤ (decodeL (b :: t)).1 := by
  rw [decodeL_N]
  rcases decodeN_shape (b :: t).length ((b :: t).getD 0 0).toNat ((b :: t).getD 1 0).toNat ((b :: t).getD 2 0).toNat ((b :: t).getD 3 0).toNat with ⟨c, e⟩ | ⟨c1, c2, c3, cv, e⟩ | ⟨c1, c2, c3, c4, cv, cs, e⟩ | ⟨c1, c2, c3, c4, c5, cv, cw, e⟩ | e
  · simp only [List.getD_cons_zero] at c; omega
  · rw [e]; dsimp only; omega
  · rw [e]; dsimp only; omega
  · rw [e]; dsimp only; omega
  · rw [e]; dsimp only; omega
def ByteSort (p : Nat → Bool) (q : UInt8 → Bool) (truth : Bool) (s : ByteArray) : Prop :=
  (∀ b : UInt8, b.toNat < 128 → p b.toNat = q b) ∧ ∀ b ∈ L s, 128 ≤ b.toNat → q b = truth ∧ ∀ r, 128 ≤ r → p r = truth
theorem idx_from (p : Nat → Bool) (q : UInt8 → Bool) (truth : Bool) (s : ByteArray) (h : ByteSort p q truth s) : ∀ (f pos : Nat), s.size ≤ pos + f →
    idxFuncFrom p truth s f pos = if pos + sp (fun b => q b != truth) ((L s).drop pos) < s.size then ((pos + sp (fun b => q b != truth) ((L s).drop pos) : Nat) : Int) else -1
  | 0, pos, hf => by
    rw [if_neg (by omega)]; rfl
  | f + 1, pos, hf => by
    unfold idxFuncFrom
    by_cases hp : pos < s.size
    · have hd := List.drop_eq_getElem_cons (show pos < (L s).length by rw [L_len]; exact hp)
      obtain ⟨b, hb⟩ : ∃ b, b = (L s)[pos]'(by rw [L_len]; exact hp) := ⟨_, rfl⟩
      rw [← hb] at hd
      have hm : b ∈ L s := by rw [hb]; exact List.getElem_mem _
      rw [if_pos hp, ← decodeL_drop]
      change (if p (decodeL ((L s).drop pos)).1 = truth then (pos : Int) else idxFuncFrom p truth s f (pos + (decodeL ((L s).drop pos)).2)) = _
      rw [hd]
      have e : p (decodeL (b :: (L s).drop (pos + 1))).1 = q b ∧ (q b ≠ truth → (decodeL (b :: (L s).drop (pos + 1))).2 = 1) := by
        by_cases hl : b.toNat < 128
        · rw [dec_low _ _ hl]
          exact ⟨h.1 b hl, fun _ => rfl⟩
        · obtain ⟨k1, k2⟩ := h.2 b hm (by omega)
          exact ⟨by rw [k2 _ (dec_high _ _ (by omega)), k1], fun hn => absurd k1 hn⟩
      rw [e.1]
      by_cases hq : q b = truth
      · rw [if_pos hq]
        have : sp (fun b => q b != truth) (b :: (L s).drop (pos + 1)) = 0 := by
          unfold sp
          rw [List.takeWhile_cons, if_neg (by simp [hq])]
          rfl
        rw [this, Nat.add_zero, if_pos hp]
      · rw [if_neg hq, e.2 hq, idx_from p q truth s h f (pos + 1) (by omega)]
        have : sp (fun b => q b != truth) (b :: (L s).drop (pos + 1)) = 1 + sp (fun b => q b != truth) ((L s).drop (pos + 1)) := by
          unfold sp
          rw [List.takeWhile_cons, if_pos (bne_iff_ne.2 hq), List.length_cons]; omega
        rw [this, Nat.add_assoc]
    · rw [if_neg hp, if_neg (by omega)]
theorem idx_is (p : Nat → Bool) (q : UInt8 → Bool) (truth : Bool) (s : ByteArray) (h : ByteSort p q truth s) :
    idxFunc p truth s = if sp (fun b => q b != truth) (L s) < s.size then ((sp (fun b => q b != truth) (L s) : Nat) : Int) else -1 := by
  unfold idxFunc
  rw [idx_from p q truth s h s.size 0 (by omega)]
  simp
theorem L_extD (s : ByteArray) (i : Nat) : L (s.extract i s.size) = (L s).drop i := by
  have h : L (s.extract i s.size) = ((L s).drop i).take (s.size - i) := Lib.extract_data s i s.size
  rw [h, List.take_of_length_le]
  rw [List.length_drop, L_len]
  exact Nat.le_refl _
theorem trimF_is (p : Nat → Bool) (q : UInt8 → Bool) (s : ByteArray) (h : ByteSort p q false s) : L (trimLeftF p s) = (L s).dropWhile q := by
  unfold trimLeftF
  rw [idx_is p q false s h]
  have hq : (fun b => q b != false) = q := by funext b; cases q b <;> rfl
  rw [hq]
  have hl := sp_le q (L s)
  rw [L_len] at hl
  by_cases hs : sp q (L s) < s.size
  · rw [if_pos hs, if_neg (by omega), Int.toNat_natCast, L_extD, drop_sp]
  · rw [if_neg hs, if_pos rfl]
    have : (L s).dropWhile q = [] := by
      rw [← drop_sp, List.drop_eq_nil_iff, L_len]; omega
    rw [this]
theorem contains_is (p : Nat → Bool) (q : UInt8 → Bool) (s : ByteArray) (h : ByteSort p q true s) : decide (0 ≤ idxFunc p true s) = (L s).any q := by
  rw [idx_is p q true s h]
  by_cases ha : (L s).any q = true
  · rw [ha]
    have : sp (fun b => q b != true) (L s) < s.size := by
      have hl := sp_le (fun b => q b != true) (L s)
      rw [L_len] at hl
      refine Decidable.byContradiction fun hn => ?_
      have hd : (L s).dropWhile (fun b => q b != true) = [] := by rw [← drop_sp, List.drop_eq_nil_iff, L_len]; omega
      have ht := dw_nil hd
      obtain ⟨b, hb, hqb⟩ := List.any_eq_true.1 ha
      rw [← ht] at hb
      have := tw_all _ _ _ hb
      simp [hqb] at this
    rw [if_pos this]
    exact decide_eq_true (by omega)
  · have ha2 : (L s).any q = false := by simpa using ha
    rw [ha2]
    have : ¬ sp (fun b => q b != true) (L s) < s.size := by
      have e : sp (fun b => q b != true) (L s) = (L s).length := sp_every _ _ (fun c hc => by
        have := (List.any_eq_false.1 ha2) c hc
        simp at this
        simp [this])
      rw [e, L_len]; omega
    rw [if_neg this]
    exact decide_eq_false (by omega)
/-- The sorts of this program's. -/
def pOne (c : UInt8) (r : Nat) : Bool := decide (r = c.toNat)
def pDig (r : Nat) : Bool := decide (48 ≤ r) && decide (r ≤ 57)
def pOdd (r : Nat) : Bool := !pDig r && !(decide (r = 35) || decide (r = 64) || decide (r = 44) || decide (r = 46))
theorem nat_eq (b c : UInt8) : decide (b.toNat = c.toNat) = (b == c) := by
  by_cases h : b = c
  · subst h; simp
  · rw [beq_eq_false_iff_ne.2 h]
    exact decide_eq_false (fun e => h (UInt8.toNat_inj.1 e))
theorem one_sort (c : UInt8) (h : c.toNat < 128) (s : ByteArray) : ByteSort (pOne c) (fun b => b == c) false s :=
  ⟨fun b _ => nat_eq b c, fun b _ hb => ⟨beq_eq_false_iff_ne.2 (fun e => by subst e; omega), fun r hr => decide_eq_false (by omega)⟩⟩
theorem dig_sort (s : ByteArray) : ByteSort pDig dig false s :=
  ⟨fun b _ => rfl, fun b _ hb => ⟨by unfold dig; rw [decide_eq_false (by omega : ¬ b.toNat ≤ 57)]; simp, fun r hr => by unfold pDig; rw [decide_eq_false (by omega : ¬ r ≤ 57)]; simp⟩⟩
theorem dig_sort2 (s : ByteArray) (h : ∀ b ∈ L s, b.toNat < 128) : ByteSort pDig dig true s :=
  ⟨fun b _ => rfl, fun b hm hb => absurd (h b hm) (by omega)⟩
theorem odd_sort (s : ByteArray) : ByteSort pOdd odd true s :=
  ⟨fun b _ => by
    unfold pOdd odd
    rw [show (35 : Nat) = (35 : UInt8).toNat from rfl, show (64 : Nat) = (64 : UInt8).toNat from rfl, show (44 : Nat) = (44 : UInt8).toNat from rfl, show (46 : Nat) = (46 : UInt8).toNat from rfl, nat_eq, nat_eq, nat_eq, nat_eq]
    rfl,
   fun b _ hb => ⟨by
    unfold odd dig
    rw [decide_eq_false (by omega : ¬ b.toNat ≤ 57)]
    have : ∀ c : UInt8, c.toNat < 128 → (b == c) = false := fun c hc => beq_eq_false_iff_ne.2 (fun e => by subst e; omega)
    rw [this 35 (by decide), this 64 (by decide), this 44 (by decide), this 46 (by decide)]; simp,
    fun r hr => by
      unfold pOdd pDig
      rw [decide_eq_false (by omega : ¬ r ≤ 57), decide_eq_false (by omega : ¬ r = 35), decide_eq_false (by omega : ¬ r = 64), decide_eq_false (by omega : ¬ r = 44), decide_eq_false (by omega : ¬ r = 46)]; simp⟩⟩
theorem odd_low (b : UInt8) (h : odd b = false) : b.toNat < 128 := by
  refine Decidable.byContradiction fun hn => ?_
  unfold odd dig at h
  rw [decide_eq_false (by omega : ¬ b.toNat ≤ 57)] at h
  have : ∀ c : UInt8, c.toNat < 128 → (b == c) = false := fun c hc => beq_eq_false_iff_ne.2 (fun e => by subst e; omega)
  rw [this 35 (by decide), this 64 (by decide), this 44 (by decide), this 46 (by decide)] at h
  simp at h
end Go.Proofs.YtgobcejjefgkcaaDoor.N
