/- Package utf's Bad, Runes and Text: what they answer, as plain functions over the model's own decoder, and their contracts. -/
import Derived.Test.YtcenacecegleeaaDoorFT
import Derived.WalkKit
import Derived.BigCall
import Derived.Lib.RuneCount
import Derived.Lib.TrimUEq
import Derived.Lib.RuneBytes
import Derived.Lib.Hide
import Derived.Test.YtcenacecegleeaaDoorU
import Derived.Test.YtcenacecegleeaaDoorU
import Derived.Test.YtcenacecegleeaaDoorPrint0
namespace Go.Proofs.YtcenacecegleeaaDoor.Print
open Go.RowKit Go.Proofs.YtcenacecegleeaaDoor.Utf Go.Proofs.YtcenacecegleeaaDoorW.PrintWords Go.Proofs.YtcenacecegleeaaDoorW.PrintLast Go.Proofs.YtcenacecegleeaaDoorW.PrintMore
set_option linter.unusedVariables false
set_option linter.unusedSimpArgs false

/-- Where no code point begins, from a place on. -/
def badFrom (s : ByteArray) : Nat → Nat → Int
  | 0, _ => -1
  | f + 1, p => if p < s.size then (if (Utf8.decode s p).1 = 65533 ∧ (Utf8.decode s p).2 = 1 then (p : Int) else badFrom s f (p + (Utf8.decode s p).2)) else -1
def utf_Bad.f (s : ByteArray) : Option Int := if s.size < 9223372036854775807 then some (badFrom s s.size 0) else none
/-- The code points, from a place on. -/
def runesFrom (s : ByteArray) : Nat → Nat → List Int
  | 0, _ => []
  | f + 1, p => if p < s.size then ((Utf8.decode s p).1 : Int) :: runesFrom s f (p + (Utf8.decode s p).2) else []
def utf_Runes.f (s : ByteArray) : Option (List Int × Bool) :=
  if s.size < 35184372088832 then (if badFrom s s.size 0 ≥ 0 then some ([], false) else some (runesFrom s s.size 0, true)) else none
def utf_Text.f (l : List Int) : Option (ByteArray × Bool) :=
  if l.length < 35184372088000 then (if l.all Lib.validRune then some (⟨(encAll l).toArray⟩, true) else some (⟨#[]⟩, false)) else none

theorem badFrom_end (s : ByteArray) (f p : Nat) (h : ¬ p < s.size) : badFrom s f p = -1 := by
  cases f with
  | zero => rfl
  | succ f => simp [badFrom, h]
theorem runesFrom_end (s : ByteArray) (f p : Nat) (h : ¬ p < s.size) : runesFrom s f p = [] := by
  cases f with
  | zero => rfl
  | succ f => simp [runesFrom, h]
theorem ret_int {k : IntKind} {a b : Int} (h : a = b) : Ending.returned (.int k a) = .returned (.int k b) := by rw [h]
theorem heap_keeps {w W : World} (h : Below w.heap.size w W) {k : Nat} {o : Obj} (hk : w.heap[k]? = some o) : W.heap[k]? = some o := (h.block k (Array.getElem?_eq_some_iff.1 hk).1).trans hk
theorem decodeGo_at (s : ByteArray) (p : Nat) (h : p < s.size) : Lib.decodeGo (s.extract p s.size) = Utf8.decode s p := by
  have e : (s.extract p s.size).data.toList = s.data.toList.drop p := by
    rw [Lib.extract_data]
    exact List.take_of_length_le (by rw [List.length_drop, ← Lib.size_eq]; omega)
  unfold Lib.decodeGo
  rw [if_neg (by rw [ByteArray.size_extract]; omega), ← Lib.decodeL_drop s p, ← Lib.decodeL_drop (s.extract p s.size) 0, e, List.drop_zero]

set_option maxHeartbeats 4000000 in
set_option maxRecDepth 1000000 in
theorem utf_Bad.calls (a0 : ByteArray) (r : Int) (w : World) (hT : Tabs w) (h : utf_Bad.f a0 = some r) :
    Calls Tryd.prog 30 #[.string a0] w fun e w' => e = .returned (.int .i64 r) ∧ Below w.heap.size w w' := by
  unfold utf_Bad.f at h
  by_cases hs : a0.size < 9223372036854775807
  · rw [if_pos hs] at h
    have hr : badFrom a0 a0.size 0 = r := Option.some.inj h
    have HR := Lib.hid hr
    have HT := Lib.hid hT
    clear h hr hT
    go_enter Tryd.func30, Tryd.ntmps30
    go_wp2
    go_loopw [] (fun wr => ∃ (pos fuel : Nat), wr.heap[w.heap.size]? = some (.stringIter a0 pos) ∧ Below w.heap.size w wr ∧ Hid (badFrom a0 fuel pos = r) ∧ a0.size ≤ pos + fuel) (fun wr => a0.size - wr.iterPos w.heap.size)
    case atStart =>
      refine ⟨0, a0.size, ?_, (Below.refl _ w).alloc (Nat.le_refl _) _, HR, by omega⟩
      have := World.iter_heap w a0 0
      simpa using this
    case round =>
      obtain ⟨pos, fuel, hit, hbw, hbad, hfu⟩ := hrel
      have hsz : w.heap.size < wr.heap.size := (Array.getElem?_eq_some_iff.1 hit).1
      by_cases hp : pos < a0.size
      · have hnx : ∀ ty, (Instr.next (.pointer (some ⟨w.heap.size, 0, none⟩)) true ty).run Tryd.prog wr = _ := fun ty => Lib.run_next_any_at wr w.heap.size a0 pos ty hit hp
        have hwd := Lib.decode_width_pos a0 pos hp
        have hd1 := decode_le a0 pos
        have hit2 := Lib.iterAt_heap wr w.heap.size a0 pos (pos + (Utf8.decode a0 pos).2) hit
        have hbw2 := Lib.below_iterAt hbw (k := w.heap.size) (by omega) a0 (pos + (Utf8.decode a0 pos).2)
        obtain ⟨f, rfl⟩ : ∃ f, fuel = f + 1 := ⟨fuel - 1, by omega⟩
        have hTw : Tabs (wr.iterAt w.heap.size a0 (pos + (Utf8.decode a0 pos).2)) := Tabs_below HT hbw2
        have hlow : (pos : Int) ≤ (a0.size : Int) := by omega
        by_cases h1 : (Utf8.decode a0 pos).1 = 65533
        · have hq : (((Utf8.decode a0 pos).1 : Int) != 65533) = false := by rw [h1]; rfl
          have hd2 : Hid ((Utf8.decode a0 pos).1 = 65533) := Lib.hid h1
          clear h1
          go_wp2_with (go_at_call 40; refine (Tryd.utf8_DecodeRuneInString _ _ (Tabs_utf8 hTw)).mono ?_)
          rintro e W1 ⟨rfl, hb1⟩
          have hdg := decodeGo_at a0 pos hp
          have hst2 := heap_keeps hb1 hit2
          rw [hdg]
          clear hdg
          by_cases hw1 : (Utf8.decode a0 pos).2 = 1
          · have hw2 : (((Utf8.decode a0 pos).2 : Int) == 1) = true := by rw [hw1]; rfl
            have hd3 := Lib.hid hw1
            clear hw1
            go_wp2
            go_ret
            refine ⟨?_, hbw2.trans (hb1.mono (by rw [Lib.iterAt_size]; omega))⟩
            have hbr := hbad.out
            unfold badFrom at hbr
            rw [if_pos hp, if_pos ⟨hd2.out, hd3.out⟩] at hbr
            exact ret_int hbr
          · have hw2 : (((Utf8.decode a0 pos).2 : Int) == 1) = false := by simp only [beq_eq_false_iff_ne, ne_eq]; omega
            have hd3 := Lib.hid hw1
            clear hw1
            go_wp2
            go_roundw
            case rel =>
              refine ⟨pos + (Utf8.decode a0 pos).2, f, hst2, hbw2.trans (hb1.mono (by rw [Lib.iterAt_size]; omega)), Lib.hid ?_, by omega⟩
              have hbr := hbad.out
              unfold badFrom at hbr
              rw [if_pos hp, if_neg (fun hh => hd3.out hh.2)] at hbr
              exact hbr
            case measure =>
              simp only [World.iterPos, hst2, hit]
              omega
        · have hq : (((Utf8.decode a0 pos).1 : Int) != 65533) = true := by simp only [bne_iff_ne, ne_eq]; omega
          have hd2 : Hid (¬ (Utf8.decode a0 pos).1 = 65533) := Lib.hid h1
          clear h1
          go_wp2
          go_roundw
          case rel =>
            refine ⟨pos + (Utf8.decode a0 pos).2, f, hit2, hbw2, Lib.hid ?_, by omega⟩
            have hbr := hbad.out
            unfold badFrom at hbr
            rw [if_pos hp, if_neg (fun hh => hd2.out hh.1)] at hbr
            exact hbr
          case measure =>
            simp only [World.iterPos, hit2, hit]
            omega
      · have hnx : ∀ ty, (Instr.next (.pointer (some ⟨w.heap.size, 0, none⟩)) true ty).run Tryd.prog wr = _ := fun ty => Lib.run_next_end_at wr w.heap.size a0 pos ty hit hp
        go_wp2
        go_ret
        have hbr := hbad.out
        rw [badFrom_end a0 fuel pos hp] at hbr
        exact ⟨ret_int hbr, hbw⟩
  · rw [if_neg hs] at h
    cases h

/-- A row of the call's own is no iterator. -/
theorem iter_ne {α : Type} {d : Kd α} {e base B pos : Nat} {W : World} {ok : Nat → Prop} {v : Value} {xs : List α} {s : ByteArray} (h : d.R e W base ok v xs) (hit : W.heap[B]? = some (.stringIter s pos)) : some B ≠ v.ownBlock := by
  intro e
  obtain ⟨_, _, _, q, _, cells, hc⟩ := (Kd.R_bound h).1 B e.symm
  rw [hit] at hc
  cases hc
theorem R_iterAt {α : Type} {d : Kd α} {e base B pos : Nat} {W : World} {ok : Nat → Prop} {v : Value} {xs : List α} {s : ByteArray} (h : d.R e W base ok v xs) (hit : W.heap[B]? = some (.stringIter s pos)) (pos' : Nat) : d.R e (W.iterAt B s pos') base ok v xs :=
  Kd.R_mono (Kd.R_move (Kd.R_bound h) (fun k hk => Lib.iterAt_other W B k s pos' (by
    obtain ⟨_, _, _, q, _, cells, hc⟩ := hk
    rintro rfl
    rw [hit] at hc
    cases hc))) (fun _ hk => hk.1)

set_option maxHeartbeats 4000000 in
set_option maxRecDepth 1000000 in
theorem utf_Runes.calls (a0 : ByteArray) (r1 : List Int) (r2 : Bool) (w : World) (hT : Tabs w) (h : utf_Runes.f a0 = some (r1, r2)) :
    Calls Tryd.prog 31 #[.string a0] w fun e w' => ∃ v0_ : Value, e = .returned (.tuple #[v0_, .bool r2]) ∧ Kd.R (Kd.int .i32) 21 w' w.heap.size (fun _ => True) v0_ r1 ∧ Below w.heap.size w w' := by
  unfold utf_Runes.f at h
  by_cases hs : a0.size < 35184372088832
  · rw [if_pos hs] at h
    have hbf : utf_Bad.f a0 = some (badFrom a0 a0.size 0) := by unfold utf_Bad.f; rw [if_pos (by omega)]
    obtain ⟨bd, hbd⟩ : ∃ bd, badFrom a0 a0.size 0 = bd := ⟨_, rfl⟩
    rw [hbd] at hbf h
    have HBF := Lib.hid hbf
    have HT := Lib.hid hT
    clear hT hbf hbd
    by_cases hb : bd ≥ 0
    · rw [if_pos hb] at h
      cases h
      have hb0 : decide (0 ≤ bd) = true := decide_eq_true hb
      clear hb
      go_enter Tryd.func31, Tryd.ntmps31
      go_wp2_with (go_at_call 30; refine (utf_Bad.calls a0 bd _ HT.out HBF.out).mono ?_; rintro e W1 ⟨rfl, hb1⟩)
      go_ret2
      exact ⟨_, rfl, Kd.R_nil _ _ _ _ _, hb1⟩
    · rw [if_neg hb] at h
      cases h
      have hb0 : decide (0 ≤ bd) = false := decide_eq_false hb
      clear hb
      obtain ⟨rr, hrr⟩ : ∃ rr, runesFrom a0 a0.size 0 = rr := ⟨_, rfl⟩
      rw [hrr]
      have HR := Lib.hid hrr
      clear hrr
      go_enter Tryd.func31, Tryd.ntmps31
      go_wp2_with (go_at_call 30; refine (utf_Bad.calls a0 bd _ HT.out HBF.out).mono ?_; rintro e W1 ⟨rfl, hb1⟩)
      have hsz1 : w.heap.size ≤ W1.heap.size := hb1.size
      go_loopw [4] (fun v4 wr => ∃ (pos fuel : Nat) (acc : List Int), wr.heap[W1.heap.size]? = some (.stringIter a0 pos) ∧ Below w.heap.size w wr ∧ Kd.R (Kd.int .i32) 21 wr w.heap.size (fun _ => True) v4 acc ∧ Hid (acc ++ runesFrom a0 fuel pos = rr) ∧ a0.size ≤ pos + fuel ∧ acc.length ≤ pos) (fun _ wr => a0.size - wr.iterPos W1.heap.size)
      case atStart =>
        refine ⟨0, a0.size, [], ?_, hb1.alloc hsz1 _, Kd.R_nil _ _ _ _ _, Lib.hid (by rw [← HR.out]; rfl), by omega, by simp⟩
        have := World.iter_heap W1 a0 0
        simpa using this
      case round =>
        obtain ⟨pos, fuel, acc, hit, hbw, hR, hacc, hfu, hal⟩ := hrel
        have hsz : W1.heap.size < wr.heap.size := (Array.getElem?_eq_some_iff.1 hit).1
        by_cases hp : pos < a0.size
        · have hnx : ∀ ty, (Instr.next (.pointer (some ⟨W1.heap.size, 0, none⟩)) true ty).run Tryd.prog wr = _ := fun ty => Lib.run_next_any_at wr W1.heap.size a0 pos ty hit hp
          have hwd := Lib.decode_width_pos a0 pos hp
          have hd1 := decode_le a0 pos
          have hit2 := Lib.iterAt_heap wr W1.heap.size a0 pos (pos + (Utf8.decode a0 pos).2) hit
          have hbw2 := Lib.below_iterAt hbw (k := W1.heap.size) (by omega) a0 (pos + (Utf8.decode a0 pos).2)
          have hR2 := R_iterAt hR hit (pos + (Utf8.decode a0 pos).2)
          obtain ⟨f, rfl⟩ : ∃ f, fuel = f + 1 := ⟨fuel - 1, by omega⟩
          go_wp2_with (((with_reducible refine gate_builtin (b := .append) (xs := #[.tmp 15, .tmp 17]) rfl ?_); at_builtin; refine Kd.R_append (Kd.int .i32) (w0 := w) w.heap.size rfl (.tmp 15) (.tmp 17) 45 21 (.int .i32 0) 4 rfl Tryd.underlying45 (by kernel_rfl) rfl (by decide) (by omega) u4 acc ((Utf8.decode a0 pos).1 : Int) [.int .i32 ((Utf8.decode a0 pos).1 : Int)] (fun _ => True) (fun _ => False) rfl rfl ?aP (fun _ hk => hk.elim) ?aF ?aO ?aB ?aS ?aL ?_; (case aP => exact rfl); (case aB => exact hbw2); (case aF => exact (fun _ _ => trivial)); (case aO => exact hR2); (case aS => rw [Lib.iterAt_size]; omega); (case aL => omega); intro v140 w10 ho hb hg hat; (have hit3 := (hg.block W1.heap.size (by rw [Lib.iterAt_size]; omega) (iter_ne hR2 hit2)).trans hit2); clear hg hat))
          go_roundw
          case rel =>
            refine ⟨pos + (Utf8.decode a0 pos).2, f, acc ++ [((Utf8.decode a0 pos).1 : Int)], hit3, hb, ho, Lib.hid ?_, by omega, by simp; omega⟩
            have hbr := hacc.out
            unfold runesFrom at hbr
            rw [if_pos hp] at hbr
            rw [← hbr]
            simp
          case measure =>
            simp only [World.iterPos, hit3, hit]
            omega
        · have hnx : ∀ ty, (Instr.next (.pointer (some ⟨W1.heap.size, 0, none⟩)) true ty).run Tryd.prog wr = _ := fun ty => Lib.run_next_end_at wr W1.heap.size a0 pos ty hit hp
          go_wp2
          go_ret2
          have hbr := hacc.out
          rw [runesFrom_end a0 fuel pos hp, List.append_nil] at hbr
          subst hbr
          exact ⟨_, rfl, hR, hbw⟩
  · rw [if_neg hs] at h
    cases h
/-- A row of numbers that is read: where it lies. -/
theorem ints_at {k : IntKind} {w : World} {A : Option Addr} {l : List Int} (h : Kd.C (Kd.int k) w A l.length l) (hl : l ≠ []) :
    ∃ bk o, A = some ⟨bk, o, none⟩ ∧ bk < w.heap.size ∧ ∀ (j : Nat) x, l[j]? = some x → w.cell? ⟨bk, o + j, none⟩ = some (.int k x) := by
  obtain ⟨_, _, hc⟩ := h
  obtain ⟨⟨bk, o, sp⟩, rfl, hc2⟩ := hc (List.length_pos_iff.2 hl)
  have one : ∀ (j : Nat) x, l[j]? = some x → w.cell? (Addr.add ⟨bk, o, sp⟩ j) = some (.int k x) := fun j x hx => by
    obtain ⟨c, _, hK, hcell⟩ := hc2 j x hx
    have hK2 : c = [.int k x] := hK
    subst hK2
    have := hcell 0 _ rfl
    rwa [show (Kd.int k).sz = 1 from rfl, Nat.mul_one, Nat.add_zero] at this
  obtain ⟨x, r, rfl⟩ := List.exists_cons_of_ne_nil hl
  have h0 := one 0 x rfl
  rw [show (Addr.add ⟨bk, o, sp⟩ 0) = ⟨bk, o, sp⟩ by simp [Addr.add]] at h0
  obtain rfl := cell_spot h0
  exact ⟨bk, o, rfl, World.block_lt_of_cell? w _ h0, fun j x hx => by have := one j x hx; rwa [Addr.add_lit] at this⟩
theorem scalar_any (r : Int) (w : World) : Calls Tryd.prog 25 #[.int .i32 r] w fun e w' => e = .returned (.bool (Lib.validRune r)) ∧ w' = w := by
  go_enter Tryd.func25, Tryd.ntmps25
  go_wp2_with (go_at_call 34; refine (Tryd.utf8_ValidRune r _).mono ?_; rintro e w' ⟨rfl, rfl⟩)
  go_ret
  exact ⟨rfl, rfl⟩
theorem all_take_succ (l : List Int) (p : Int → Bool) (i : Nat) (x : Int) (hx : l[i]? = some x) (h : (l.take i).all p = true) : (l.take (i + 1)).all p = p x := by
  rw [List.take_add_one, hx, List.all_append, h]
  simp
theorem all_at (l : List Int) (p : Int → Bool) (i : Nat) (x : Int) (hx : l[i]? = some x) (h : p x = false) : l.all p = false := by
  rw [List.all_eq_false]
  exact ⟨x, List.mem_of_getElem? hx, by simp [h]⟩

set_option maxHeartbeats 4000000 in
set_option maxRecDepth 1000000 in
theorem utf_Text.calls (A0 : Option Addr) (c0 : Nat) (l0 : List Int) (r1 : ByteArray) (r2 : Bool) (w : World) (hr0 : Kd.C (Kd.int .i32) w A0 l0.length l0) (hc0 : l0.length ≤ c0) (h : utf_Text.f l0 = some (r1, r2)) :
    Calls Tryd.prog 45 #[.slice A0 l0.length c0] w fun e w' => e = .returned (.tuple #[.string r1, .bool r2]) ∧ Below w.heap.size w w' := by
  unfold utf_Text.f at h
  by_cases hlen : l0.length < 35184372088000
  · rw [if_pos hlen] at h
    have HH := Lib.hid h
    clear h
    by_cases hl : l0 = []
    · subst hl
      have hh : (⟨#[]⟩ : ByteArray) = r1 ∧ true = r2 := by simpa [encAll] using HH.out
      obtain ⟨rfl, rfl⟩ := hh
      go_enter Tryd.func45, Tryd.ntmps45
      go_wp2
      go_loopw [9] (fun v9 wr => v9 = .int .i64 0 ∧ Lib.IsBuilderF 62 5 w.heap.size w.heap.size (Lib.byteCells []) wr ∧ Below w.heap.size w wr) (fun v9 wr => 0)
      case atStart => exact ⟨rfl, Lib.IsBuilderF.of (Lib.fresh_isBuilder 62 5 w), (Below.refl _ w).alloc (Nat.le_refl _) _⟩
      case round =>
        obtain ⟨rfl, hI, hbw⟩ := hrel
        go_wp2_with (go_at_call 39; refine (Tryd.Builder_String_any_k w.heap.size w.heap.size [] _ hI hbw.size).mono ?_)
        rintro e W1 ⟨rfl, _, b1, _⟩
        go_wp2
        go_ret2
        exact ⟨rfl, hbw.trans b1⟩
    · obtain ⟨bk, o, rfl, hbk, hcell⟩ := ints_at hr0 hl
      clear hr0
      go_enter Tryd.func45, Tryd.ntmps45
      go_wp2
      go_loopw [9] (fun v9 wr => ∃ (i : Nat) (acc : List UInt8), v9 = .int .i64 i ∧ i ≤ l0.length ∧ Lib.IsBuilderF 62 5 w.heap.size w.heap.size (Lib.byteCells acc) wr ∧ Below w.heap.size w wr ∧ Hid (acc = encAll (l0.take i)) ∧ Hid ((l0.take i).all Lib.validRune = true) ∧ acc.length ≤ 4 * i) (fun v9 wr => l0.length - (intOf v9).toNat)
      case atStart => exact ⟨0, [], rfl, Nat.zero_le _, Lib.IsBuilderF.of (Lib.fresh_isBuilder 62 5 w), (Below.refl _ w).alloc (Nat.le_refl _) _, Lib.hid rfl, Lib.hid rfl, by simp⟩
      case round =>
        obtain ⟨i, acc, rfl, hil, hI, hbw, hacc, hall, hal⟩ := hrel
        have hsz := hbw.size
        by_cases hi : i < l0.length
        · obtain ⟨x, hx⟩ : ∃ x, l0[i]? = some x := ⟨_, List.getElem?_eq_getElem hi⟩
          have hc := (hbw.cell (p := ⟨bk, o + i, none⟩) hbk).trans (hcell i x hx)
          have HX := Lib.hid hx
          clear hx
          by_cases hv : Lib.validRune x = true
          · have hv2 : -2147483648 ≤ x ∧ x ≤ 2147483647 := by
              have := hv
              unfold Lib.validRune at this
              have := of_decide_eq_true this
              omega
            have hl4 := Lib.runeCells_le x
            rw [Lib.runeCells_length] at hl4
            go_wp2_with (first
              | (go_at_call 25; refine (scalar_any x _).mono ?_; rintro e w' ⟨rfl, rfl⟩)
              | (go_at_call 36; refine (Tryd.Builder_WriteRune_k w.heap.size w.heap.size _ x hv2.1 hv2.2 _ hI (by rw [Lib.byteCells_length]; omega) hsz).mono ?_; rintro e W1 ⟨rfl, h1, b1, k1⟩))
            go_roundw
            case rel =>
              refine ⟨i + 1, acc ++ Lib.encodeRune x, by go_num, by omega, ?_, hbw.trans b1, Lib.hid ?_, Lib.hid ?_, by simp; omega⟩
              · rw [Lib.byteCells_append, Lib.byteCells_encodeRune]; exact Or.inr h1
              · rw [List.take_add_one, HX.out, hacc.out]
                exact (encAll_snoc _ _).symm
              · rw [all_take_succ _ _ _ _ HX.out hall.out]; exact hv
            case measure => simp [intOf]; omega
          · have hv0 : Lib.validRune x = false := by simpa using hv
            clear hv
            go_wp2_with (go_at_call 25; refine (scalar_any x _).mono ?_; rintro e w' ⟨rfl, rfl⟩)
            go_ret2
            have hh := HH.out
            rw [all_at _ _ _ _ HX.out hv0] at hh
            have hh2 : (⟨#[]⟩ : ByteArray) = r1 ∧ false = r2 := by simpa using hh
            obtain ⟨rfl, rfl⟩ := hh2
            exact ⟨rfl, hbw⟩
        · have hie : i = l0.length := by omega
          subst hie
          go_wp2_with (go_at_call 39; refine (Tryd.Builder_String_any_k w.heap.size w.heap.size acc _ hI hsz).mono ?_)
          rintro e W1 ⟨rfl, _, b1, _⟩
          go_wp2
          go_ret2
          have hh := HH.out
          have ha := hall.out
          have hacc2 := hacc.out
          rw [List.take_length] at ha hacc2
          rw [ha, if_pos rfl] at hh
          have hh2 : (⟨(encAll l0).toArray⟩ : ByteArray) = r1 ∧ true = r2 := by simpa using hh
          obtain ⟨rfl, rfl⟩ := hh2
          subst hacc2
          exact ⟨rfl, hbw.trans b1⟩
  · rw [if_neg hlen] at h
    cases h
end Go.Proofs.YtcenacecegleeaaDoor.Print
/- What Bad and Runes find in a text, by its one form. -/
namespace Go.Proofs.YtcenacecegleeaaDoor.Print
open Go.RowKit Go.Lib Go.Proofs.YtcenacecegleeaaDoor.U Go.Proofs.YtcenacecegleeaaDoor.Utf Go.Proofs.YtcenacecegleeaaDoorW.PrintWords
set_option linter.unusedVariables false
set_option linter.unusedSimpArgs false

theorem dec_atF (s : ByteArray) (p : Nat) : Utf8.decode s p = decodeL ((L s).drop p) := (decodeL_drop s p).symm
theorem badFrom_formF (s : ByteArray) : ∀ (f p : Nat) (rs : List Int) (rest : List UInt8), s.size ≤ p + f → TextForm ((L s).drop p) rs rest → badFrom s f p = if rest = [] then -1 else (p : Int) + (encAll rs).length
  | 0, p, rs, rest, hf, ⟨ha, h, hr⟩ => by
    have h0 : (L s).drop p = [] := List.drop_eq_nil_of_le (by rw [L_len]; omega)
    rw [h0] at h
    have := List.append_eq_nil_iff.1 h.symm
    rw [if_pos this.2]
    rfl
  | f + 1, p, rs, rest, hf, hform => by
    unfold badFrom
    by_cases hp : p < s.size
    · rw [if_pos hp, dec_atF]
      have hne : (L s).drop p ≠ [] := fun h => by
        have := congrArg List.length h
        rw [List.length_drop, L_len, List.length_nil] at this
        omega
      obtain ⟨ha, h, hr⟩ := hform
      cases rs with
      | nil =>
        rw [encAll_nil, List.nil_append] at h
        rw [h] at hne ⊢
        rcases hr with hr | hr
        · exact absurd hr hne
        · unfold Bad at hr
          rw [hr, if_pos ⟨rfl, rfl⟩, if_neg hne, encAll_nil]
          simp
      | cons r rs =>
        have hr0 := ha r (by simp)
        have hd : decodeL ((L s).drop p) = (r.toNat, (encodeRune r).length) := by rw [h, encAll_cons, List.append_assoc, dec_enc r hr0]
        have hnb : ¬ (r.toNat = 65533 ∧ (encodeRune r).length = 1) := fun hh => enc_not_bad r hr0 (encAll rs ++ rest) (by unfold Bad; rw [dec_enc r hr0]; exact Prod.ext hh.1 hh.2)
        rw [hd, if_neg hnb]
        have hdr : (L s).drop (p + (encodeRune r).length) = encAll rs ++ rest := by rw [← List.drop_drop, h, encAll_cons, List.append_assoc, List.drop_left]
        have h1 := (enc_len r).1
        rw [badFrom_formF s f (p + (encodeRune r).length) rs rest (by omega) ⟨fun x hx => ha x (by simp [hx]), hdr, hr⟩]
        by_cases hn : rest = []
        · rw [if_pos hn, if_pos hn]
        · rw [if_neg hn, if_neg hn, encAll_cons, List.length_append]
          omega
    · rw [if_neg hp]
      have h0 : (L s).drop p = [] := List.drop_eq_nil_of_le (by rw [L_len]; omega)
      obtain ⟨ha, h, hr⟩ := hform
      rw [h0] at h
      rw [if_pos (List.append_eq_nil_iff.1 h.symm).2]
theorem runesFrom_formF (s : ByteArray) : ∀ (f p : Nat) (rs : List Int), s.size ≤ p + f → TextForm ((L s).drop p) rs [] → runesFrom s f p = rs
  | 0, p, rs, hf, ⟨ha, h, hr⟩ => by
    have h0 : (L s).drop p = [] := List.drop_eq_nil_of_le (by rw [L_len]; omega)
    rw [h0, List.append_nil] at h
    cases rs with
    | nil => rfl
    | cons r rs =>
      rw [encAll_cons] at h
      exact absurd (List.append_eq_nil_iff.1 h.symm).1 (enc_ne r)
  | f + 1, p, rs, hf, ⟨ha, h, hr⟩ => by
    unfold runesFrom
    rw [List.append_nil] at h
    by_cases hp : p < s.size
    · rw [if_pos hp, dec_atF]
      cases rs with
      | nil =>
        have := congrArg List.length h
        rw [List.length_drop, L_len, encAll_nil, List.length_nil] at this
        omega
      | cons r rs =>
        have hr0 := ha r (by simp)
        have hok := (ok_iff r).1 hr0
        have hd : decodeL ((L s).drop p) = (r.toNat, (encodeRune r).length) := by rw [h, encAll_cons, dec_enc r hr0]
        have hdr : (L s).drop (p + (encodeRune r).length) = encAll rs := by rw [← List.drop_drop, h, encAll_cons, List.drop_left]
        have h1 := (enc_len r).1
        rw [hd, runesFrom_formF s f (p + (encodeRune r).length) rs (by omega) ⟨fun x hx => ha x (by simp [hx]), by rw [hdr]; simp, .inl rfl⟩]
        congr 1
        omega
    · rw [if_neg hp]
      have h0 : (L s).drop p = [] := List.drop_eq_nil_of_le (by rw [L_len]; omega)
      rw [h0] at h
      cases rs with
      | nil => rfl
      | cons r rs =>
        rw [encAll_cons] at h
        exact absurd (List.append_eq_nil_iff.1 h.symm).1 (enc_ne r)
theorem runes_all (s : ByteArray) (h : ¬ badFrom s s.size 0 ≥ 0) : All (runesFrom s s.size 0) ∧ L s = encAll (runesFrom s s.size 0) := by
  obtain ⟨rs, rest, hf⟩ := form (L s)
  have h0 : TextForm ((L s).drop 0) rs rest := by simpa using hf
  have hb := badFrom_formF s s.size 0 rs rest (by omega) h0
  by_cases hr : rest = []
  · subst hr
    rw [runesFrom_formF s s.size 0 rs (by omega) h0]
    exact ⟨hf.1, by rw [hf.2.1, List.append_nil]⟩
  · rw [if_neg hr] at hb
    omega
end Go.Proofs.YtcenacecegleeaaDoor.Print
/- Cuts of a row of anything that is read: what lies there behind a cut. -/
namespace Go.Proofs.YtcenacecegleeaaDoor.Print
open Go.RowKit Go.Proofs.YtcenacecegleeaaDoorW.PrintWords Go.Proofs.YtcenacecegleeaaDoorW.PrintLast Go.Proofs.YtcenacecegleeaaDoorW.PrintMore
set_option linter.unusedVariables false
set_option linter.unusedSimpArgs false

/-- Where a row lies behind a cut. -/
def cutA (A : Option Addr) (c k sz : Nat) : Option Addr := if c = k then A else A.map (·.add (k * sz))
theorem add_add (a : Addr) (i j : Nat) : (a.add i).add j = a.add (i + j) := by
  unfold Addr.add
  by_cases hi : i = 0
  · subst hi
    rw [if_pos rfl, Nat.zero_add]
  · by_cases hj : j = 0
    · subst hj
      rw [if_pos rfl, Nat.add_zero]
    · rw [if_neg hi, if_neg hj, if_neg (by omega)]
      simp [Nat.add_assoc]
theorem C_drop {α : Type} {d : Kd α} {w : World} {A : Option Addr} {l : List α} (h : Kd.C d w A l.length l) (c : Nat) (hc : l.length ≤ c) (k : Nat) (hk : k ≤ l.length) : Kd.C d w (cutA A c k d.sz) (l.drop k).length (l.drop k) := by
  obtain ⟨h1, h2, h3⟩ := h
  refine ⟨rfl, by rw [List.length_drop]; omega, fun hp => ?_⟩
  rw [List.length_drop] at hp
  obtain ⟨ad, rfl, hcell⟩ := h3 (by omega)
  refine ⟨ad.add (k * d.sz), by unfold cutA; rw [if_neg (by omega)]; rfl, fun j p hj => ?_⟩
  rw [List.getElem?_drop] at hj
  obtain ⟨c', hs, hr, hu⟩ := hcell (k + j) p hj
  refine ⟨c', hs, hr, fun i u hi => ?_⟩
  have := hu i u hi
  rw [Nat.add_mul, Nat.add_assoc] at this
  rw [add_add]
  exact this
theorem C_take {α : Type} {d : Kd α} {w : World} {A : Option Addr} {l : List α} (h : Kd.C d w A l.length l) (k : Nat) : Kd.C d w A (l.take k).length (l.take k) := by
  obtain ⟨h1, h2, h3⟩ := h
  refine ⟨rfl, by rw [List.length_take]; omega, fun hp => ?_⟩
  rw [List.length_take] at hp
  obtain ⟨ad, rfl, hcell⟩ := h3 (by omega)
  refine ⟨ad, rfl, fun j p hj => ?_⟩
  refine hcell j p ?_
  rw [List.getElem?_take] at hj
  split at hj
  · exact hj
  · cases hj
theorem run_drop {P : Program} {w : World} (t e sz : Nat) (ht : P.underlying t = some (.slice e)) (hz : ∀ w, (Go.sizeOf e).run P w = .ok sz w) (A : Option Addr) (n c k : Nat) (hk : k ≤ n) :
    (Instr.slice t (.slice A n c) (some (.int .i64 (k : Int))) none none).run P w = .ok (.slice (cutA A c k sz) (n - k) (c - k)) w := by
  have ht' : P.underlying t = some (.slice (P.elem t)) := by simp [Program.elem, ht]
  have he : P.elem t = e := by simp [Program.elem, ht]
  rw [run_slice_l w t A n c ht' .i64 (k : Int) (by omega) (by omega), he, hz]
  simp [sliced, Result.andThen, cutA]
theorem run_take {P : Program} {w : World} (t e sz : Nat) (ht : P.underlying t = some (.slice e)) (hz : ∀ w, (Go.sizeOf e).run P w = .ok sz w) (A : Option Addr) (n c k : Nat) (hk : k ≤ c) :
    (Instr.slice t (.slice A n c) none (some (.int .i64 (k : Int))) none).run P w = .ok (.slice A k c) w := by
  have ht' : P.underlying t = some (.slice (P.elem t)) := by simp [Program.elem, ht]
  have he : P.elem t = e := by simp [Program.elem, ht]
  rw [run_slice_h w t A n c ht' .i64 (k : Int) (by omega) (by omega), he, hz]
  cases A <;> simp [sliced, Result.andThen, Addr.add]
theorem get_exG {α : Type} (l : List α) (i : Nat) (h : i < l.length) : ∃ x, l[i]? = some x := ⟨_, List.getElem?_eq_getElem h⟩
end Go.Proofs.YtcenacecegleeaaDoor.Print
