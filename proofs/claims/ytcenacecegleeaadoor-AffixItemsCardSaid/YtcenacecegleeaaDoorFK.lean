/- Package token's Print: what it answers, as a plain function, and its contract. -/
import Derived.Test.YtcenacecegleeaaDoorFU
import Derived.Test.YtcenacecegleeaaDoorFU
import Derived.Test.YtcenacecegleeaaDoorPRow
import Derived.Lib.OthersKept
namespace Go.Proofs.YtcenacecegleeaaDoor.Print
open Go.RowKit Go.Proofs.YtcenacecegleeaaDoor.Utf Go.Proofs.YtcenacecegleeaaDoorW.PrintWords Go.Proofs.YtcenacecegleeaaDoorW.PrintLast Go.Proofs.YtcenacecegleeaaDoorW.PrintMore
open Go.Proofs.YtcenacecegleeaaDoor.Pure (rowN rowA row_ev rowN_le rowN_take)
set_option linter.unusedVariables false
set_option linter.unusedSimpArgs false

/-- A builder, behind a call that has touched nothing that stood. -/
theorem bF_below {T e : TypeId} {B b : Nat} {bs : List Value} {W W' : World} (h : Lib.IsBuilderF T e B b bs W) (hb : Below W.heap.size W W') : Lib.IsBuilderF T e B b bs W' := by
  have one : ∀ {p : Value}, Lib.BuilderAtF T e B b p bs W → Lib.BuilderAtF T e B b p bs W' := fun h => by
    have hlt := h.lt
    obtain ⟨hB, v, hv, hown, hne⟩ := h
    exact ⟨hB, v, (hb.block b hlt).trans hv, hown.kept (row := none) ⟨hb.os, hb.tape, hb.output, hb.size, fun k hk _ => hb.block k hk⟩ (Classical.em _), hne⟩
  exact h.elim (fun x => Or.inl (one x)) (fun x => Or.inr (one x))
/-- A quoted code point, as it is written. -/
def encQ (r : Int) : List UInt8 := Lib.encodeRune r ++ (if r = 39 then Lib.encodeRune 39 else [])
def quotesL (l : List S36) : List UInt8 := (l.map fun x => encQ x.f0).flatten
/-- A row of quoted ones. -/
def writtenL (l : List S36) (all : Bool) : List UInt8 := if all = true then quotesL l else [39] ++ quotesL l ++ [39]
theorem enc_le (r : Int) : (Lib.encodeRune r).length ≤ 4 := by
  have := Lib.runeCells_le r
  rw [Lib.runeCells_length] at this
  omega
theorem encQ_le (r : Int) : (encQ r).length ≤ 8 := by
  unfold encQ
  rw [List.length_append]
  have h1 := enc_le r
  split
  · have := enc_le 39
    omega
  · simp; omega
theorem quotesL_snoc (l : List S36) (x : S36) : quotesL (l ++ [x]) = quotesL l ++ encQ x.f0 := by simp [quotesL]
theorem quotesL_le (l : List S36) : (quotesL l).length ≤ 8 * l.length := by
  induction l with
  | nil => simp [quotesL]
  | cons x l ih =>
    have := encQ_le x.f0
    have e : quotesL (x :: l) = encQ x.f0 ++ quotesL l := by simp [quotesL]
    rw [e, List.length_append, List.length_cons]
    omega
/-- A row of tokens that is read: where it lies. -/
theorem toks_at {w : World} {A : Option Addr} {l : List S36} (h : Kd.C k36 w A l.length l) (hl : l ≠ []) :
    ∃ bk o, A = some ⟨bk, o, none⟩ ∧ bk < w.heap.size ∧ ∀ (j : Nat) x, l[j]? = some x → w.cell? ⟨bk, o + j * 3, none⟩ = some (.int .i32 x.f0) ∧ w.cell? ⟨bk, o + j * 3 + 1, none⟩ = some (.bool x.f1) ∧ w.cell? ⟨bk, o + j * 3 + 2, none⟩ = some (.int .i64 x.f2) := by
  obtain ⟨_, _, hc⟩ := h
  obtain ⟨⟨bk, o, sp⟩, rfl, hc2⟩ := hc (List.length_pos_iff.2 hl)
  have one : ∀ (j : Nat) x, l[j]? = some x → w.cell? (Addr.add ⟨bk, o, sp⟩ (j * 3)) = some (.int .i32 x.f0) ∧ w.cell? (Addr.add ⟨bk, o, sp⟩ (j * 3 + 1)) = some (.bool x.f1) ∧ w.cell? (Addr.add ⟨bk, o, sp⟩ (j * 3 + 2)) = some (.int .i64 x.f2) := fun j x hx => by
    obtain ⟨c, _, hK, hcell⟩ := hc2 j x hx
    obtain rfl := k36_open hK
    exact ⟨hcell 0 _ rfl, hcell 1 _ rfl, hcell 2 _ rfl⟩
  obtain ⟨x, r, rfl⟩ := List.exists_cons_of_ne_nil hl
  have h0 := (one 0 x rfl).1
  rw [show (Addr.add ⟨bk, o, sp⟩ (0 * 3)) = ⟨bk, o, sp⟩ by simp [Addr.add]] at h0
  obtain rfl := cell_spot h0
  exact ⟨bk, o, rfl, World.block_lt_of_cell? w _ h0, fun j x hx => by have := one j x hx; rw [Addr.add_lit, Addr.add_lit, Addr.add_lit] at this; exact this⟩
theorem z_tok : ∀ w, (Go.sizeOf 36).run Tryd.prog w = .ok 3 w := fun w => by kernel_rfl
theorem idx_toks (n c i bk o : Nat) (A : Option Addr) (W : World) (hA : A = some ⟨bk, o, none⟩) (hi : i < n) :
    (Instr.indexAt 22 (.slice A n c) (.int .i64 (i : Int))).run Tryd.prog W = .ok (.pointer (some ⟨bk, o + i * 3, none⟩)) W := by
  subst hA
  have ht : Tryd.prog.underlying 22 = some (.slice (Tryd.prog.elem 22)) := by kernel_rfl
  have he : Tryd.prog.elem 22 = 36 := by kernel_rfl
  rw [run_indexAt_slice _ _ _ _ _ _ _ ht, he, if_pos ⟨by omega, by omega⟩, z_tok]
  simp [Result.andThen, Addr.add_lit]
theorem rune_range {q : Int} (hv : Lib.validRune q = true) : -2147483648 ≤ q ∧ q ≤ 2147483647 := by
  have := hv
  unfold Lib.validRune at this
  have := of_decide_eq_true this
  omega

set_option maxHeartbeats 8000000 in
set_option maxRecDepth 1000000 in
theorem written_calls (A0 : Option Addr) (c0 : Nat) (l : List S36) (all : Bool) (w : World) (hr0 : Kd.C k36 w A0 l.length l) (hc0 : l.length ≤ c0) (hv : ∀ x ∈ l, Lib.validRune x.f0 = true) (hl : l.length ≤ 1000000000000) :
    Calls Tryd.prog 38 #[.slice A0 l.length c0, .bool all] w fun e w' => e = .returned (.string ⟨(writtenL l all).toArray⟩) ∧ Below w.heap.size w w' := by
  go_enter Tryd.func38, Tryd.ntmps38
  go_wp2
  go_loopw [10] (fun v10 wr => ∃ (i : Nat) (acc : List UInt8), v10 = .int .i64 i ∧ i ≤ l.length ∧ Lib.IsBuilderF 62 5 w.heap.size w.heap.size (Lib.byteCells acc) wr ∧ Below w.heap.size w wr ∧ Hid (quotesL (l.take i) = acc) ∧ acc.length ≤ 8 * i) (fun v10 wr => l.length - (RowKit.intOf v10).toNat)
  case atStart => exact ⟨0, [], rfl, Nat.zero_le _, Lib.IsBuilderF.of (Lib.fresh_isBuilder 62 5 w), (Below.refl _ w).alloc (Nat.le_refl _) _, Lib.hid rfl, by simp⟩
  case round =>
    obtain ⟨i, acc, rfl, hil, hI, hbw, hacc, hal⟩ := hrel
    have hsz := hbw.size
    have hlt : w.heap.size < wr.heap.size := hI.elim (fun x => x.lt) (fun x => x.lt)
    by_cases hi : i < l.length
    · obtain ⟨x, hx⟩ := get_exG l i hi
      obtain ⟨bk, o, hA1, hbk, hcells⟩ := toks_at hr0 (fun e => by rw [e] at hi; simp at hi)
      have hia := fun W => idx_toks l.length c0 i bk o A0 W hA1 hi
      have hc := hcells i x hx
      have hcx0 := (hbw.cell (p := ⟨bk, o + i * 3, none⟩) hbk).trans hc.1
      have hcx1 := (hbw.cell (p := ⟨bk, o + i * 3 + 1, none⟩) hbk).trans hc.2.1
      have hcx2 := (hbw.cell (p := ⟨bk, o + i * 3 + 2, none⟩) hbk).trans hc.2.2
      have hvx := hv x (List.mem_of_getElem? hx)
      have HX := Lib.hid hx
      clear hx hc hcells hA1
      obtain ⟨q, b, at_⟩ := x
      simp only at hcx0 hcx1 hcx2 hvx
      have hv2 := rune_range hvx
      have hl4 := enc_le q
      by_cases h39 : q = 39
      · have hq : (q == 39) = true := by rw [h39]; rfl
        have H39 := Lib.hid h39
        clear h39
        have hl39 := enc_le 39
        go_wp2_with (first
          | (go_at_call 36; (with_reducible refine (Tryd.Builder_WriteRune_k w.heap.size w.heap.size _ q hv2.1 hv2.2 _ (hI.alloc _) (by rw [Lib.byteCells_length]; omega) (by simp; omega)).mono ?_); rintro e W1 ⟨rfl, h1, b1, k1⟩; have hkeep := k1 wr.heap.size _ (heap_alloc_new _ _) (fun e => by have := Option.some.inj e; omega) (fun _ _ e => by cases e); have hk0 : W1.cell? ⟨wr.heap.size, 0, none⟩ = some (.int .i32 q) := (by simp [World.cell?, hkeep]); have hI1 : Lib.IsBuilderF 62 5 w.heap.size w.heap.size (Lib.byteCells (acc ++ Lib.encodeRune q)) W1 := (by rw [Lib.byteCells_append, Lib.byteCells_encodeRune]; exact Or.inr h1); have hb2 := ((Below.refl w.heap.size wr).alloc hsz _).trans b1; have hsz1 : w.heap.size ≤ W1.heap.size := (hbw.trans hb2).size; clear h1 k1)
          | (go_at_call 36; (with_reducible refine (Tryd.Builder_WriteRune_k w.heap.size w.heap.size _ 39 (by omega) (by omega) _ hI1 (by rw [Lib.byteCells_length, List.length_append]; omega) hsz1).mono ?_); rintro e W2 ⟨rfl, h2, b2, k2⟩))
        go_roundw
        case rel =>
          refine ⟨i + 1, acc ++ encQ q, by go_num, by omega, ?_, hbw.trans (hb2.trans b2), Lib.hid ?_, ?_⟩
          · unfold encQ
            rw [if_pos H39.out, ← List.append_assoc, Lib.byteCells_append, Lib.byteCells_encodeRune]; exact Or.inr h2
          · rw [List.take_add_one, HX.out, ← hacc.out]
            exact quotesL_snoc _ _
          · have := encQ_le q
            rw [List.length_append]; omega
        case measure => simp [RowKit.intOf]; omega
      · have hq : (q == 39) = false := beq_eq_false_iff_ne.2 h39
        have H39 := Lib.hid h39
        clear h39
        go_wp2_with (go_at_call 36; refine (Tryd.Builder_WriteRune_k w.heap.size w.heap.size _ q hv2.1 hv2.2 _ (hI.alloc _) (by rw [Lib.byteCells_length]; omega) (by simp; omega)).mono ?_; rintro e W1 ⟨rfl, h1, b1, k1⟩; have hkeep := k1 wr.heap.size _ (heap_alloc_new _ _) (fun e => by have := Option.some.inj e; omega) (fun _ _ e => by cases e); have hk0 : W1.cell? ⟨wr.heap.size, 0, none⟩ = some (.int .i32 q) := by simp [World.cell?, hkeep])
        have hb2 := ((Below.refl w.heap.size wr).alloc hsz _).trans b1
        go_roundw
        case rel =>
          refine ⟨i + 1, acc ++ encQ q, by go_num, by omega, ?_, hbw.trans hb2, Lib.hid ?_, ?_⟩
          · unfold encQ
            rw [if_neg H39.out, List.append_nil, Lib.byteCells_append, Lib.byteCells_encodeRune]; exact Or.inr h1
          · rw [List.take_add_one, HX.out, ← hacc.out]
            exact quotesL_snoc _ _
          · have := encQ_le q
            rw [List.length_append]; omega
        case measure => simp [RowKit.intOf]; omega
    · have hie : i = l.length := by omega
      subst hie
      have hq := hacc.out
      rw [List.take_length] at hq
      have HQ := Lib.hid hq
      clear hq
      cases all with
      | true =>
        go_wp2_with (go_at_call 39; refine (Tryd.Builder_String_any_k w.heap.size w.heap.size acc _ hI hsz).mono ?_)
        rintro e W1 ⟨rfl, _, b1, _⟩
        go_wp2
        go_ret
        refine ⟨?_, hbw.trans b1⟩
        unfold writtenL
        rw [if_pos rfl, HQ.out]
        rfl
      | false =>
        go_wp2_with (go_at_call 39; refine (Tryd.Builder_String_any_k w.heap.size w.heap.size acc _ hI hsz).mono ?_)
        rintro e W1 ⟨rfl, _, b1, _⟩
        have hz1 : (⟨acc.toArray⟩ : ByteArray).size = acc.length := rfl
        go_wp2
        go_ret
        refine ⟨?_, hbw.trans b1⟩
        unfold writtenL
        rw [if_neg (by simp), HQ.out]
        have e : (⟨#[39]⟩ : ByteArray) ++ ⟨acc.toArray⟩ ++ ⟨#[39]⟩ = ⟨([39] ++ acc ++ [39]).toArray⟩ := U.L_inj (by rw [U.L_app, U.L_app, U.L_mk, U.L_mk])
        rw [← e]
        rfl

/-! ### Print -/
/-- May a token be written? -/
def okT (x : S36) : Bool := Lib.validRune x.f0 && (x.f1 || x.f0 != 39)
def printGo : Nat → List S36 → List UInt8
  | 0, _ => []
  | _ + 1, [] => []
  | f + 1, x :: t => if x.f1 = true then writtenL ((x :: t).take (rowN (x :: t))) (rowA (x :: t)) ++ printGo f ((x :: t).drop (rowN (x :: t))) else Lib.encodeRune x.f0 ++ printGo f t
def token_Print.f (l : List S36) : Option ByteArray :=
  if l.length ≤ 1000000000 then some (if l.all okT = true then ⟨(printGo l.length l).toArray⟩ else ⟨#[]⟩) else none
theorem printGo_nil (f : Nat) : printGo f [] = [] := by cases f <;> rfl
theorem all_atK {α : Type} (l : List α) (p : α → Bool) (i : Nat) (x : α) (hx : l[i]? = some x) (h : p x = false) : l.all p = false := by
  rw [List.all_eq_false]
  exact ⟨x, List.mem_of_getElem? hx, by simp [h]⟩
theorem all_succK {α : Type} (l : List α) (p : α → Bool) (i : Nat) (x : α) (hx : l[i]? = some x) (h : (l.take i).all p = true) (h2 : p x = true) : (l.take (i + 1)).all p = true := by
  rw [List.take_add_one, hx, List.all_append, h]
  simp [h2]
def slLen : Value → Nat
  | .slice _ n _ => n
  | _ => 0
theorem writtenL_le (l : List S36) (all : Bool) : (writtenL l all).length ≤ 8 * l.length + 2 := by
  have := quotesL_le l
  unfold writtenL
  split
  · omega
  · rw [List.length_append, List.length_append]
    simp only [List.length_cons, List.length_nil]
    omega
theorem row_plain (x : S36) (t : List S36) (h : x.f1 = false) : rowN (x :: t) = 0 ∧ rowA (x :: t) = true := by
  unfold Pure.rowN Pure.rowA
  rw [List.takeWhile_cons, h]
  exact ⟨rfl, rfl⟩
theorem row_quoted (x : S36) (t : List S36) (h : x.f1 = true) : 1 ≤ rowN (x :: t) := by
  unfold Pure.rowN
  rw [List.takeWhile_cons, h]
  simp

set_option maxHeartbeats 8000000 in
set_option maxRecDepth 1000000 in
theorem token_Print.calls (A0 : Option Addr) (c0 : Nat) (l0 : List S36) (r : ByteArray) (w : World) (hr0 : Kd.C k36 w A0 l0.length l0) (hc0 : l0.length ≤ c0) (h : token_Print.f l0 = some r) :
    Calls Tryd.prog 27 #[.slice A0 l0.length c0] w fun e w' => e = .returned (.string r) ∧ Below w.heap.size w w' := by
  unfold token_Print.f at h
  by_cases hlen : l0.length ≤ 1000000000
  rotate_left
  · rw [if_neg hlen] at h; cases h
  rw [if_pos hlen] at h
  have HH := Lib.hid (Option.some.inj h)
  clear h
  go_enter Tryd.func27, Tryd.ntmps27
  go_wp2
  go_loopw [10] (fun v10 wr => ∃ (i : Nat), v10 = .int .i64 i ∧ i ≤ l0.length ∧ Lib.IsBuilderF 62 5 w.heap.size w.heap.size (Lib.byteCells []) wr ∧ Below w.heap.size w wr ∧ Hid ((l0.take i).all okT = true)) (fun v10 wr => l0.length - (RowKit.intOf v10).toNat)
  case atStart => exact ⟨0, rfl, Nat.zero_le _, Lib.IsBuilderF.of (Lib.fresh_isBuilder 62 5 w), (Below.refl _ w).alloc (Nat.le_refl _) _, Lib.hid rfl⟩
  case round =>
    obtain ⟨i, rfl, hil, hI, hbw, hall⟩ := hrel
    have hsz := hbw.size
    have hlt : w.heap.size < wr.heap.size := hI.elim (fun x => x.lt) (fun x => x.lt)
    by_cases hi : i < l0.length
    · obtain ⟨x, hx⟩ := get_exG l0 i hi
      obtain ⟨bk, o, hA1, hbk, hcells⟩ := toks_at hr0 (fun e => by rw [e] at hi; simp at hi)
      have hia := fun W => idx_toks l0.length c0 i bk o A0 W hA1 hi
      have hc := hcells i x hx
      have hcx0 := (hbw.cell (p := ⟨bk, o + i * 3, none⟩) hbk).trans hc.1
      have hcx1 := (hbw.cell (p := ⟨bk, o + i * 3 + 1, none⟩) hbk).trans hc.2.1
      have hcx2 := (hbw.cell (p := ⟨bk, o + i * 3 + 2, none⟩) hbk).trans hc.2.2
      have HX := Lib.hid hx
      clear hx hc hcells hA1
      obtain ⟨q, b, at_⟩ := x
      simp only at hcx0 hcx1 hcx2
      have hbad : okT ⟨q, b, at_⟩ = false → (⟨#[]⟩ : ByteArray) = r := fun hn => by
        have hh := HH.out
        rw [all_atK l0 okT i _ HX.out hn, if_neg (by simp)] at hh
        exact hh
      have hgood : okT ⟨q, b, at_⟩ = true → (l0.take (i + 1)).all okT = true := fun hy => all_succK l0 okT i _ HX.out hall.out hy
      cases hv : Lib.validRune q with
      | false =>
        have HN := Lib.hid (hbad (by simp [okT, hv]))
        have hv0 : Lib.validRune q = false := hv
        clear hbad hgood hv
        go_wp2_with (go_at_call 25; refine (scalar_any q _).mono ?_; rintro e w' ⟨rfl, rfl⟩)
        go_ret
        exact ⟨by rw [← HN.out]; rfl, hbw.alloc hsz _⟩
      | true =>
        by_cases h39 : q = 39
        · have hq : (q == 39) = true := by rw [h39]; rfl
          have H39 := Lib.hid h39
          clear h39
          cases b with
          | false =>
            have HN := Lib.hid (hbad (by simp [okT, H39.out]))
            clear hbad hgood
            go_wp2_with (go_at_call 25; refine (scalar_any q _).mono ?_; rintro e w' ⟨rfl, rfl⟩)
            go_ret
            exact ⟨by rw [← HN.out]; rfl, hbw.alloc hsz _⟩
          | true =>
            have HN := Lib.hid (hgood (by simp [okT, hv]))
            clear hbad hgood
            go_wp2_with (go_at_call 25; refine (scalar_any q _).mono ?_; rintro e w' ⟨rfl, rfl⟩)
            go_roundw
            case rel => exact ⟨i + 1, by go_num, by omega, hI.alloc _, hbw.alloc hsz _, HN⟩
            case measure => simp [RowKit.intOf]; omega
        · have hq : (q == 39) = false := beq_eq_false_iff_ne.2 h39
          have HN := Lib.hid (hgood (by simp [okT, hv, h39]))
          clear hbad hgood h39
          go_wp2_with (go_at_call 25; refine (scalar_any q _).mono ?_; rintro e w' ⟨rfl, rfl⟩)
          go_roundw
          case rel => exact ⟨i + 1, by go_num, by omega, hI.alloc _, hbw.alloc hsz _, HN⟩
          case measure => simp [RowKit.intOf]; omega
    · have hie : i = l0.length := by omega
      subst hie
      have ha := hall.out
      rw [List.take_length] at ha
      have hh := HH.out
      rw [if_pos ha] at hh
      have HA := Lib.hid (fun x hx => List.all_eq_true.1 ha x hx)
      have HP := Lib.hid (U.L_inj (s := r) (t := ⟨(printGo l0.length l0).toArray⟩) (by rw [← hh]))
      clear ha hh hall HH
      go_wp2
      go_loopw [0] (fun v0 w2 => ∃ (m : List S36) (A : Option Addr) (c f : Nat) (acc : List UInt8), v0 = .slice A m.length c ∧ m.length ≤ c ∧ Kd.C k36 w A m.length m ∧ Lib.IsBuilderF 62 5 w.heap.size w.heap.size (Lib.byteCells acc) w2 ∧ Below w.heap.size w w2 ∧ Hid (m.length ≤ f ∧ (⟨(acc ++ printGo f m).toArray⟩ : ByteArray) = r) ∧ Hid (∀ x ∈ m, okT x = true) ∧ acc.length + 10 * m.length ≤ 10 * l0.length) (fun v0 w2 => slLen v0)
      case atStart => exact ⟨l0, A0, c0, l0.length, [], rfl, hc0, hr0, hI, hbw, Lib.hid ⟨Nat.le_refl _, by rw [List.nil_append]; exact HP.out.symm⟩, HA, by simp⟩
      case round =>
        obtain ⟨m, A, c, f, acc, rfl, hmc, hC, hI2, hbw2, hP, hO, hal⟩ := hrel
        have hsz2 := hbw2.size
        by_cases hm : m = []
        · subst hm
          have hr := hP.out.2
          rw [printGo_nil, List.append_nil] at hr
          have HR := Lib.hid hr
          clear hr hP hO
          go_wp2_with (go_at_call 39; refine (Tryd.Builder_String_any_k w.heap.size w.heap.size acc _ hI2 hsz2).mono ?_)
          rintro e W1 ⟨rfl, _, b1, _⟩
          go_wp2
          go_ret
          exact ⟨by rw [← HR.out]; rfl, hbw2.trans b1⟩
        · obtain ⟨bk, o, hA1, hbk, hcells⟩ := toks_at hC hm
          obtain ⟨kk, hkk⟩ := row_ev m (by omega)
          have hrow := hkk kk (Nat.le_refl _)
          have hml : 0 < m.length := List.length_pos_iff.2 hm
          have hpos : decide (0 < ((m.length : Nat) : Int)) = true := decide_eq_true (by omega)
          have hC2 := Kd.C_below hC hbw2
          obtain ⟨x, m', hm'⟩ := List.exists_cons_of_ne_nil hm
          have hok := hO.out x (by rw [hm']; simp)
          have hvx : Lib.validRune x.f0 = true := by
            unfold okT at hok
            rw [Bool.and_eq_true] at hok
            exact hok.1
          obtain ⟨f, rfl⟩ : ∃ f', f = f' + 1 := ⟨f - 1, by have := hP.out.1; omega⟩
          have hx : m[0]? = some x := by rw [hm']; rfl
          have hcx0 := (hbw2.cell (p := ⟨bk, o, none⟩) hbk).trans (hcells 0 x hx).1
          have hia : ∀ W, (Instr.indexAt 22 (.slice A m.length c) (.int .i64 0)).run Tryd.prog W = .ok (.pointer (some ⟨bk, o, none⟩)) W := fun W => by
            have := idx_toks m.length c 0 bk o A W hA1 hml
            rw [Nat.zero_mul, Nat.add_zero] at this
            exact this
          clear hcells hA1 hx hm hok hkk
          have hv2 := rune_range hvx
          have hl4 := enc_le x.f0
          have ht23 : Tryd.prog.underlying 22 = some (.slice 36) := Tryd.underlying22
          have HM := Lib.hid hm'
          clear hm'
          obtain ⟨q, b, at_⟩ := x
          simp only at hcx0 hvx hv2 hl4
          cases b with
          | false =>
            have hr0' := row_plain ⟨q, false, at_⟩ m' rfl
            rw [← HM.out] at hr0'
            rw [hr0'.1, hr0'.2] at hrow
            have HROW : Hid (token_row.f kk m = some ((0 : Int), true)) := Lib.hid hrow
            have hdr : ∀ W, (Instr.slice 22 (.slice A m.length c) (some (.int .i64 1)) none none).run Tryd.prog W = .ok (.slice (cutA A c 1 3) (m.length - 1) (c - 1)) W := fun W => run_drop 22 36 3 ht23 z_tok A m.length c 1 hml
            clear hrow hr0'
            go_wp2_with (first
              | (go_at_call 35; (with_reducible refine (token_row.calls kk A c m 0 true _ hC2 hmc HROW.out).mono ?_); rintro e W1 ⟨rfl, b1⟩; have hcy0 : W1.cell? ⟨bk, o, none⟩ = some (.int .i32 q) := ((b1.cell (p := ⟨bk, o, none⟩) (World.block_lt_of_cell? _ _ hcx0)).trans hcx0); have hI3 := bF_below hI2 b1; have hsz3 : w.heap.size ≤ W1.heap.size := Nat.le_trans hsz2 b1.size; have hbw3 : Below w.heap.size w W1 := hbw2.trans (b1.mono hsz2))
              | (go_at_call 36; (with_reducible refine (Tryd.Builder_WriteRune_k w.heap.size w.heap.size _ q hv2.1 hv2.2 _ hI3 (by rw [Lib.byteCells_length]; omega) hsz3).mono ?_); rintro e W2 ⟨rfl, h2, b2, k2⟩))
            go_roundw
            case rel =>
              have hcut := C_drop hC c hmc 1 hml
              have hsz' : k36.sz = 3 := rfl
              rw [hsz'] at hcut
              refine ⟨m.drop 1, cutA A c 1 3, c - 1, f, acc ++ Lib.encodeRune q, by rw [List.length_drop], by rw [List.length_drop]; omega, hcut, ?_, hbw3.trans b2, Lib.hid ⟨?_, ?_⟩, Lib.hid (fun y hy => hO.out y (List.mem_of_mem_drop hy)), by rw [List.length_append, List.length_drop]; omega⟩
              · rw [Lib.byteCells_append, Lib.byteCells_encodeRune]; exact Or.inr h2
              · have := hP.out.1
                rw [List.length_drop]; omega
              · have := hP.out.2
                rw [HM.out] at this ⊢
                rw [← this]
                simp [printGo]
            case measure => simp only [slLen]; omega
          | true =>
            have hn1 : 1 ≤ rowN m := by
              have := row_quoted ⟨q, true, at_⟩ m' rfl
              rwa [← HM.out] at this
            have hnm := rowN_le m
            have hgo : printGo (f + 1) m = writtenL (m.take (rowN m)) (rowA m) ++ printGo f (m.drop (rowN m)) := by
              rw [HM.out]
              simp only [printGo]
              rw [if_pos trivial]
            have HGO := Lib.hid hgo
            clear hgo hia hcx0 hvx hv2 hl4
            obtain ⟨n, hn⟩ : ∃ n, n = rowN m := ⟨_, rfl⟩
            obtain ⟨al, hal2⟩ : ∃ al, al = rowA m := ⟨_, rfl⟩
            rw [← hn, ← hal2] at hrow HGO
            rw [← hn] at hn1 hnm
            clear hn hal2
            have HROW := Lib.hid hrow
            clear hrow
            have hq0 : (((n : Nat) : Int) == 0) = false := beq_eq_false_iff_ne.2 (by omega)
            have hdr : ∀ W, (Instr.slice 22 (.slice A m.length c) (some (.int .i64 (n : Int))) none none).run Tryd.prog W = .ok (.slice (cutA A c n 3) (m.length - n) (c - n)) W := fun W => run_drop 22 36 3 ht23 z_tok A m.length c n hnm
            have htk : ∀ W, (Instr.slice 22 (.slice A m.length c) none (some (.int .i64 (n : Int))) none).run Tryd.prog W = .ok (.slice A (m.take n).length c) W := fun W => by
              rw [List.length_take, Nat.min_eq_left hnm]
              exact run_take 22 36 3 ht23 z_tok A m.length c n (by omega)
            have hCt := C_take hC n
            have hvt : ∀ y ∈ m.take n, Lib.validRune y.f0 = true := fun y hy => by
              have := hO.out y (List.mem_of_mem_take hy)
              unfold okT at this
              rw [Bool.and_eq_true] at this
              exact this.1
            have htl : (m.take n).length = n := by rw [List.length_take, Nat.min_eq_left hnm]
            obtain ⟨tk, htk2⟩ : ∃ tk, tk = m.take n := ⟨_, rfl⟩
            rw [← htk2] at htk hCt hvt htl HGO
            clear htk2
            have hwl := writtenL_le tk al
            rw [htl] at hwl
            have hwc := fun (W : World) (h : Kd.C k36 W A tk.length tk) => written_calls A c tk al W h (by omega) hvt (by omega)
            rw [htl] at hwc hCt htk
            clear htl hvt
            obtain ⟨wt, hwt⟩ : ∃ wt, wt = writtenL tk al := ⟨_, rfl⟩
            have HWT := Lib.hid hwt
            rw [← hwt] at hwl HGO
            clear hwt
            have hwz : (⟨wt.toArray⟩ : ByteArray).size = wt.length := rfl
            go_wp2_with (first
              | (go_at_call 35; (with_reducible refine (token_row.calls kk A c m (n : Int) al _ hC2 hmc HROW.out).mono ?_); rintro e W1 ⟨rfl, b1⟩; have hI3 := bF_below hI2 b1; have hsz3 : w.heap.size ≤ W1.heap.size := Nat.le_trans hsz2 b1.size; have hbw3 : Below w.heap.size w W1 := hbw2.trans (b1.mono hsz2); have hCt3 := Kd.C_below hCt hbw3)
              | (go_at_call 38; (with_reducible refine (hwc _ hCt3).mono ?_); rintro e W2 ⟨rfl, b2⟩; rw [← HWT.out]; have hI4 := bF_below hI3 b2; have hsz4 : w.heap.size ≤ W2.heap.size := Nat.le_trans hsz3 b2.size; have hbw4 : Below w.heap.size w W2 := hbw3.trans (b2.mono hsz3))
              | (go_at_call 37; (with_reducible refine (Tryd.Builder_WriteString_k w.heap.size w.heap.size _ ⟨wt.toArray⟩ _ hI4 (by rw [Lib.byteCells_length, hwz]; omega) hsz4).mono ?_); rintro e W3 ⟨rfl, h3, b3, k3⟩))
            go_roundw
            case rel =>
              have hcut := C_drop hC c hmc n hnm
              have hsz' : k36.sz = 3 := rfl
              rw [hsz'] at hcut
              refine ⟨m.drop n, cutA A c n 3, c - n, f, acc ++ wt, by rw [List.length_drop], by rw [List.length_drop]; omega, hcut, ?_, hbw4.trans b3, Lib.hid ⟨?_, ?_⟩, Lib.hid (fun y hy => hO.out y (List.mem_of_mem_drop hy)), by rw [List.length_append, List.length_drop]; omega⟩
              · rw [Lib.byteCells_append]
                exact Or.inr h3
              · have := hP.out.1
                rw [List.length_drop]; omega
              · have := hP.out.2
                rw [HGO.out, ← List.append_assoc] at this
                exact this
            case measure => simp only [slLen]; omega
end Go.Proofs.YtcenacecegleeaaDoor.Print
