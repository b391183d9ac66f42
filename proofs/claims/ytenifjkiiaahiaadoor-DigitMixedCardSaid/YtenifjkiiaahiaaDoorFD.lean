/- Package digit's Put, Run and Get: what they answer, as plain functions over the model's own decoder, and their contracts. -/
import Derived.Test.YtenifjkiiaahiaaDoorFU
import Derived.Test.YtenifjkiiaahiaaDoorPI
import Derived.Lib.MapLaws
namespace Go.Proofs.YtenifjkiiaahiaaDoor.Print
open Go.RowKit Go.Lib Go.Proofs.YtenifjkiiaahiaaDoor.Pure Go.Proofs.YtenifjkiiaahiaaDoorW.PrintWords Go.Proofs.YtenifjkiiaahiaaDoorW.PrintLast Go.Proofs.YtenifjkiiaahiaaDoorW.PrintMore
set_option linter.unusedVariables false
set_option linter.unusedSimpArgs false

/-- What Put writes, from a place on; none: a code point that is no digit. -/
def putFrom (z : Int) (s : ByteArray) : Nat → Nat → Option (List UInt8)
  | 0, _ => some []
  | f + 1, p => if p < s.size then (if ((Utf8.decode s p).1 : Int) < 48 ∨ ((Utf8.decode s p).1 : Int) > 57 then none else (putFrom z s f (p + (Utf8.decode s p).2)).map (Lib.encodeRune (z + ((Utf8.decode s p).1 : Int) - 48) ++ ·)) else some []
def digit_Put.f (z : Int) (s : ByteArray) : Option ByteArray :=
  if s.size < 35184372088000 then (if 0 ≤ z ∧ z ≤ 1114102 then some (match putFrom z s s.size 0 with | none => ⟨#[]⟩ | some l => ⟨l.toArray⟩) else none) else none

set_option maxHeartbeats 4000000 in
set_option maxRecDepth 1000000 in
theorem digit_Put.calls (a0 : Int) (a1 : ByteArray) (r : ByteArray) (w : World) (h : digit_Put.f a0 a1 = some r) :
    Calls Tryd.prog 28 #[.int .i32 a0, .string a1] w fun e w' => e = .returned (.string r) ∧ Below w.heap.size w w' := by
  unfold digit_Put.f at h
  by_cases hs : a1.size < 35184372088000
  · rw [if_pos hs] at h
    by_cases hz : 0 ≤ a0 ∧ a0 ≤ 1114102
    · rw [if_pos hz] at h
      have HH := Lib.hid (Option.some.inj h)
      clear h
      obtain ⟨hz0, hz1⟩ := hz
      go_enter Tryd.func28, Tryd.ntmps28
      go_wp2
      go_loopw [] (fun wr => ∃ (pos fuel : Nat) (acc : List UInt8), Lib.IsBuilderF 53 5 w.heap.size w.heap.size (Lib.byteCells acc) wr ∧ wr.heap[w.heap.size + 1]? = some (.stringIter a1 pos) ∧ Below w.heap.size w wr ∧ Hid (putFrom a0 a1 a1.size 0 = (putFrom a0 a1 fuel pos).map (acc ++ ·)) ∧ a1.size ≤ pos + fuel ∧ acc.length ≤ 4 * pos) (fun wr => a1.size - wr.iterPos (w.heap.size + 1))
      case atStart =>
        refine ⟨0, a1.size, [], (Lib.IsBuilderF.of (Lib.fresh_isBuilder 53 5 w)).alloc _, ?_, ((Below.refl _ w).alloc (Nat.le_refl _) _).alloc (by simp) _, Lib.hid (by simp), by omega, by simp⟩
        have := World.iter_heap (w.alloc (.cells #[.pointer none, .slice none 0 0] 53)) a1 0
        simpa using this
      case round =>
        obtain ⟨pos, fuel, acc, hI, hit, hbw, hput, hfu, hal⟩ := hrel
        have hsz : w.heap.size + 1 < wr.heap.size := (Array.getElem?_eq_some_iff.1 hit).1
        by_cases hp : pos < a1.size
        · have hnx : ∀ ty, (Instr.next (.pointer (some ⟨w.heap.size + 1, 0, none⟩)) true ty).run Tryd.prog wr = _ := fun ty => Lib.run_next_any_at wr (w.heap.size + 1) a1 pos ty hit hp
          have hwd := Lib.decode_width_pos a1 pos hp
          have hd1 := decode_le a1 pos
          have hI2 := hI.iterAt hit (pos + (Utf8.decode a1 pos).2)
          have hit2 := Lib.iterAt_heap wr (w.heap.size + 1) a1 pos (pos + (Utf8.decode a1 pos).2) hit
          have hbw2 := Lib.below_iterAt hbw (k := w.heap.size + 1) (by omega) a1 (pos + (Utf8.decode a1 pos).2)
          have hsz2 : w.heap.size ≤ (wr.iterAt (w.heap.size + 1) a1 (pos + (Utf8.decode a1 pos).2)).heap.size := by rw [Lib.iterAt_size]; omega
          obtain ⟨f, rfl⟩ : ∃ f, fuel = f + 1 := ⟨fuel - 1, by omega⟩
          by_cases hlo : ((Utf8.decode a1 pos).1 : Int) < 48
          · have hb0 : decide (((Utf8.decode a1 pos).1 : Int) < 48) = true := decide_eq_true hlo
            have HL := Lib.hid hlo
            clear hlo
            go_wp2
            go_ret
            have hp2 := hput.out
            unfold putFrom at hp2
            rw [if_pos hp, if_pos (Or.inl HL.out)] at hp2
            have hh := HH.out
            rw [show putFrom a0 a1 a1.size 0 = none from by unfold putFrom; exact hp2] at hh
            subst hh
            exact ⟨rfl, hbw2⟩
          · have hb0 : decide (((Utf8.decode a1 pos).1 : Int) < 48) = false := decide_eq_false hlo
            have HL := Lib.hid hlo
            by_cases hhi : 57 < ((Utf8.decode a1 pos).1 : Int)
            · have hb1 : decide (57 < ((Utf8.decode a1 pos).1 : Int)) = true := decide_eq_true hhi
              have HHi := Lib.hid hhi
              clear hlo hhi
              go_wp2
              go_ret
              have hp2 := hput.out
              unfold putFrom at hp2
              rw [if_pos hp, if_pos (Or.inr HHi.out)] at hp2
              have hh := HH.out
              rw [show putFrom a0 a1 a1.size 0 = none from by unfold putFrom; exact hp2] at hh
              subst hh
              exact ⟨rfl, hbw2⟩
            · have hb1 : decide (57 < ((Utf8.decode a1 pos).1 : Int)) = false := decide_eq_false hhi
              have HHi := Lib.hid hhi
              have hx0 : -2147483648 ≤ a0 + ((Utf8.decode a1 pos).1 : Int) - 48 ∧ a0 + ((Utf8.decode a1 pos).1 : Int) - 48 ≤ 2147483647 := by omega
              go_wp2_with (go_at_call 36; refine (Tryd.Builder_WriteRune_k w.heap.size w.heap.size _ _ hx0.1 hx0.2 _ hI2 (by rw [Lib.byteCells_length]; omega) hsz2).mono ?_; rintro e W1 ⟨rfl, h1, b1, k1⟩)
              go_roundw
              case rel =>
                have hl4 := Lib.runeCells_le (a0 + ((Utf8.decode a1 pos).1 : Int) - 48)
                rw [Lib.runeCells_length] at hl4
                refine ⟨pos + (Utf8.decode a1 pos).2, f, acc ++ Lib.encodeRune (a0 + ((Utf8.decode a1 pos).1 : Int) - 48), ?_, k1.iter hit2 (by omega), hbw2.trans b1, Lib.hid ?_, by omega, by simp; omega⟩
                · rw [Lib.byteCells_append, Lib.byteCells_encodeRune]; exact Or.inr h1
                · have hp2 := hput.out
                  rw [hp2]
                  conv => lhs; unfold putFrom
                  rw [if_pos hp, if_neg (by have := HL.out; have := HHi.out; omega), Option.map_map]
                  congr 1
                  funext l
                  simp
              case measure =>
                simp only [World.iterPos, k1.iter hit2 (by omega), hit]
                omega
        · have hnx : ∀ ty, (Instr.next (.pointer (some ⟨w.heap.size + 1, 0, none⟩)) true ty).run Tryd.prog wr = _ := fun ty => Lib.run_next_end_at wr (w.heap.size + 1) a1 pos ty hit hp
          go_wp2_with (go_at_call 37; refine (Tryd.Builder_String_any_k w.heap.size w.heap.size acc _ hI (by omega)).mono ?_)
          rintro e W1 ⟨rfl, _, b1, _⟩
          go_wp2
          go_ret
          have hp2 := hput.out
          have hend : putFrom a0 a1 fuel pos = some [] := by
            cases fuel with
            | zero => rfl
            | succ f => simp [putFrom, hp]
          rw [hend] at hp2
          have hh := HH.out
          rw [hp2] at hh
          subst hh
          exact ⟨by simp, hbw.trans b1⟩
    · rw [if_neg hz] at h
      cases h
  · rw [if_neg hs] at h
    cases h

/-- How many bytes are digits, from a place on. -/
def runFrom (z : Int) (s : ByteArray) : Nat → Nat → Int
  | 0, _ => s.size
  | f + 1, p => if p < s.size then (if isZ z ((Utf8.decode s p).1 : Int) = false ∨ ((Utf8.decode s p).1 = 65533 ∧ (Utf8.decode s p).2 = 1) then (p : Int) else runFrom z s f (p + (Utf8.decode s p).2)) else s.size
def digit_Run.f (z : Int) (s : ByteArray) : Option Int := if s.size < 9223372036854775807 then some (runFrom z s s.size 0) else none

theorem ret_bool {a b : Bool} (h : a = b) : Ending.returned (.bool a) = .returned (.bool b) := by rw [h]
theorem is_call (z r : Int) (w : World) : Calls Tryd.prog 27 #[.int .i32 z, .int .i32 r] w fun e w' => e = .returned (.bool (isZ z r)) ∧ Below w.heap.size w w' := by
  obtain ⟨k, hk⟩ := is_val z r
  exact (digit_Is.calls k z r (isZ z r) w hk).mono fun e w' ⟨he, hd⟩ => ⟨he, hd.below⟩
set_option maxHeartbeats 4000000 in
set_option maxRecDepth 1000000 in
theorem digit_Run.calls (a0 : Int) (a1 : ByteArray) (r : Int) (w : World) (hT : Tabs w) (h : digit_Run.f a0 a1 = some r) :
    Calls Tryd.prog 32 #[.int .i32 a0, .string a1] w fun e w' => e = .returned (.int .i64 r) ∧ Below w.heap.size w w' := by
  unfold digit_Run.f at h
  by_cases hs : a1.size < 9223372036854775807
  · rw [if_pos hs] at h
    have hr : runFrom a0 a1 a1.size 0 = r := Option.some.inj h
    have HR := Lib.hid hr
    have HT := Lib.hid hT
    clear h hr hT
    go_enter Tryd.func32, Tryd.ntmps32
    go_wp2
    go_loopw [] (fun wr => ∃ (pos fuel : Nat), wr.heap[w.heap.size]? = some (.stringIter a1 pos) ∧ Below w.heap.size w wr ∧ Hid (runFrom a0 a1 fuel pos = r) ∧ a1.size ≤ pos + fuel) (fun wr => a1.size - wr.iterPos w.heap.size)
    case atStart =>
      refine ⟨0, a1.size, ?_, (Below.refl _ w).alloc (Nat.le_refl _) _, HR, by omega⟩
      have := World.iter_heap w a1 0
      simpa using this
    case round =>
      obtain ⟨pos, fuel, hit, hbw, hrun, hfu⟩ := hrel
      have hsz : w.heap.size < wr.heap.size := (Array.getElem?_eq_some_iff.1 hit).1
      by_cases hp : pos < a1.size
      · have hnx : ∀ ty, (Instr.next (.pointer (some ⟨w.heap.size, 0, none⟩)) true ty).run Tryd.prog wr = _ := fun ty => Lib.run_next_any_at wr w.heap.size a1 pos ty hit hp
        have hwd := Lib.decode_width_pos a1 pos hp
        have hd1 := decode_le a1 pos
        have hit2 := Lib.iterAt_heap wr w.heap.size a1 pos (pos + (Utf8.decode a1 pos).2) hit
        have hbw2 := Lib.below_iterAt hbw (k := w.heap.size) (by omega) a1 (pos + (Utf8.decode a1 pos).2)
        obtain ⟨f, rfl⟩ : ∃ f, fuel = f + 1 := ⟨fuel - 1, by omega⟩
        have hTw : Tabs (wr.iterAt w.heap.size a1 (pos + (Utf8.decode a1 pos).2)) := Tabs_below HT hbw2
        have hlow : (pos : Int) ≤ (a1.size : Int) := by omega
        have hsz2 : (wr.iterAt w.heap.size a1 (pos + (Utf8.decode a1 pos).2)).heap.size = wr.heap.size := Lib.iterAt_size _ _ _ _
        have HZ2 := Lib.hid hsz2
        clear hsz2
        obtain ⟨bz, hbz⟩ : ∃ bz, isZ a0 ((Utf8.decode a1 pos).1 : Int) = bz := ⟨_, rfl⟩
        have HB := Lib.hid hbz
        clear hbz
        -- the code point's own bytes, and whether it is a digit
        have isc := fun W => (HB.out ▸ is_call a0 ((Utf8.decode a1 pos).1 : Int) W : Calls Tryd.prog 27 #[.int .i32 a0, .int .i32 ((Utf8.decode a1 pos).1 : Int)] W fun e w' => e = .returned (.bool bz) ∧ Below W.heap.size W w')
        have ISC := Lib.hid isc
        clear isc
        have hdg := Lib.hid (decodeGo_at a1 pos hp)
        cases bz with
        | false =>
          go_wp2_with (first
            | (go_at_call 34; refine (Tryd.utf8_DecodeRuneInString _ _ hTw).mono ?_; rintro e W1 ⟨rfl, hb1⟩)
            | (go_at_call 27; refine (ISC.out _).mono ?_; rintro e W2 ⟨rfl, hb2⟩))
          go_ret
          refine ⟨?_, (hbw2.trans (hb1.mono (by rw [HZ2.out]; omega))).trans (hb2.mono (by have := hb1.size; rw [HZ2.out] at this; omega))⟩
          have hbr := hrun.out
          unfold runFrom at hbr
          rw [if_pos hp, if_pos (Or.inl HB.out)] at hbr
          exact ret_int hbr
        | true =>
          by_cases h1 : (Utf8.decode a1 pos).1 = 65533 ∧ (Utf8.decode a1 pos).2 = 1
          · have hq : (((Utf8.decode a1 pos).1 : Int) == 65533) = true := by rw [h1.1]; rfl
            have hq2 : (((Lib.decodeGo (a1.extract pos a1.size)).2 : Int) == 1) = true := by rw [hdg.out, h1.2]; rfl
            have HD := Lib.hid h1
            clear h1
            go_wp2_with (first
              | (go_at_call 34; refine (Tryd.utf8_DecodeRuneInString _ _ hTw).mono ?_; rintro e W1 ⟨rfl, hb1⟩)
              | (go_at_call 27; refine (ISC.out _).mono ?_; rintro e W2 ⟨rfl, hb2⟩))
            go_ret
            refine ⟨?_, (hbw2.trans (hb1.mono (by rw [HZ2.out]; omega))).trans (hb2.mono (by have := hb1.size; rw [HZ2.out] at this; omega))⟩
            have hbr := hrun.out
            unfold runFrom at hbr
            rw [if_pos hp, if_pos (Or.inr HD.out)] at hbr
            exact ret_int hbr
          · have HN := Lib.hid h1
            by_cases h3 : (Utf8.decode a1 pos).1 = 65533
            all_goals
              first
                | (have hq : (((Utf8.decode a1 pos).1 : Int) == 65533) = true := by rw [h3]; rfl
                   have hq2 : (((Lib.decodeGo (a1.extract pos a1.size)).2 : Int) == 1) = false := by
                     rw [hdg.out]
                     have : ¬ (Utf8.decode a1 pos).2 = 1 := fun e => h1 ⟨h3, e⟩
                     simp only [beq_eq_false_iff_ne, ne_eq]; omega)
                | (have hq : (((Utf8.decode a1 pos).1 : Int) == 65533) = false := by simp only [beq_eq_false_iff_ne, ne_eq]; omega)
              clear h1 h3
              go_wp2_with (first
                | (go_at_call 34; refine (Tryd.utf8_DecodeRuneInString _ _ hTw).mono ?_; rintro e W1 ⟨rfl, hb1⟩)
                | (go_at_call 27; refine (ISC.out _).mono ?_; rintro e W2 ⟨rfl, hb2⟩))
              go_roundw
              case rel =>
                refine ⟨pos + (Utf8.decode a1 pos).2, f, heap_keeps hb2 (heap_keeps hb1 hit2), (hbw2.trans (hb1.mono (by rw [HZ2.out]; omega))).trans (hb2.mono (by have := hb1.size; rw [HZ2.out] at this; omega)), Lib.hid ?_, by omega⟩
                have hbr := hrun.out
                unfold runFrom at hbr
                rw [if_pos hp, if_neg (fun hh => hh.elim (fun e => by rw [HB.out] at e; cases e) (fun e => HN.out e))] at hbr
                exact hbr
              case measure =>
                simp only [World.iterPos, heap_keeps hb2 (heap_keeps hb1 hit2), hit]
                omega
      · have hnx : ∀ ty, (Instr.next (.pointer (some ⟨w.heap.size, 0, none⟩)) true ty).run Tryd.prog wr = _ := fun ty => Lib.run_next_end_at wr w.heap.size a1 pos ty hit hp
        go_wp2
        go_ret
        have hbr := hrun.out
        have hend : runFrom a0 a1 fuel pos = a1.size := by
          cases fuel with
          | zero => rfl
          | succ f => simp [runFrom, hp]
        rw [hend] at hbr
        exact ⟨ret_int hbr, hbw⟩
  · rw [if_neg hs] at h
    cases h

/-- A system's digits as 0 to 9, from a place on. -/
def getFrom (z : Int) (s : ByteArray) : Nat → Nat → List UInt8
  | 0, _ => []
  | f + 1, p => if p < s.size then UInt8.ofNat ((48 + ((Utf8.decode s p).1 : Int) - z) % 256).toNat :: getFrom z s f (p + (Utf8.decode s p).2) else []
def digit_Get.f (z : Int) (s : ByteArray) : Option (ByteArray × Bool) :=
  if s.size < 35184372088000 ∧ 0 ≤ z ∧ z ≤ 1114111 then (if s.size = 0 ∨ runFrom z s s.size 0 < (s.size : Int) then some (⟨#[]⟩, false) else some (⟨(getFrom z s s.size 0).toArray⟩, true)) else none

theorem byteCells_one (c : Int) (h0 : 0 ≤ c) (h1 : c < 256) : Lib.byteCells [UInt8.ofNat c.toNat] = [Value.int .u8 c] := by
  have : (UInt8.ofNat c.toNat).toNat = c.toNat := by simp only [UInt8.toNat_ofNat']; omega
  simp only [Lib.byteCells, List.map_cons, List.map_nil, this]
  congr 2
  omega
set_option maxHeartbeats 4000000 in
set_option maxRecDepth 1000000 in
theorem digit_Get.calls (a0 : Int) (a1 : ByteArray) (r1 : ByteArray) (r2 : Bool) (w : World) (hT : Tabs w) (h : digit_Get.f a0 a1 = some (r1, r2)) :
    Calls Tryd.prog 30 #[.int .i32 a0, .string a1] w fun e w' => e = .returned (.tuple #[.string r1, .bool r2]) ∧ Below w.heap.size w w' := by
  unfold digit_Get.f at h
  by_cases hs : a1.size < 35184372088000 ∧ 0 ≤ a0 ∧ a0 ≤ 1114111
  · rw [if_pos hs] at h
    obtain ⟨hs, hz0, hz1⟩ := hs
    by_cases h0 : a1.size = 0
    · rw [if_pos (Or.inl h0)] at h
      have e : a1 = ⟨#[]⟩ := ByteArray.ext (Array.eq_empty_of_size_eq_zero h0)
      subst e
      cases h
      go_enter Tryd.func30, Tryd.ntmps30
      go_wp2
      go_ret2
      exact ⟨rfl, Below.refl _ _⟩
    · have hne : a1.toList.isEmpty = false := by
        rw [Lib.toList_data]
        cases hh : a1.data.toList with
        | nil => exact absurd (by rw [Lib.size_eq, hh]; rfl) h0
        | cons x l => rfl
      have hne2 : (a1.toList == ([] : List UInt8)) = false := by simpa using hne
      have hne3 : ¬ a1.toList = [] := by simpa using hne
      have hrv : digit_Run.f a0 a1 = some (runFrom a0 a1 a1.size 0) := by unfold digit_Run.f; rw [if_pos (by omega)]
      obtain ⟨rn, hrn⟩ : ∃ rn, runFrom a0 a1 a1.size 0 = rn := ⟨_, rfl⟩
      rw [hrn] at h hrv
      have HRV := Lib.hid hrv
      have HT := Lib.hid hT
      clear hrv hT hrn
      by_cases hr : rn < (a1.size : Int)
      · rw [if_pos (Or.inr hr)] at h
        cases h
        have hb : decide (rn < (a1.size : Int)) = true := decide_eq_true hr
        clear hr
        go_enter Tryd.func30, Tryd.ntmps30
        go_wp2_with (go_at_call 32; refine (digit_Run.calls a0 a1 rn _ HT.out HRV.out).mono ?_; rintro e W1 ⟨rfl, hb1⟩)
        go_ret2
        exact ⟨rfl, hb1⟩
      · rw [if_neg (fun hh => hh.elim h0 hr)] at h
        have hb : decide (rn < (a1.size : Int)) = false := decide_eq_false hr
        clear hr
        obtain ⟨full, hfull⟩ : ∃ full, getFrom a0 a1 a1.size 0 = full := ⟨_, rfl⟩
        rw [hfull] at h
        have HF := Lib.hid hfull
        have HH := Lib.hid h
        clear h hfull
        go_enter Tryd.func30, Tryd.ntmps30
        go_wp2_with (go_at_call 32; refine (digit_Run.calls a0 a1 rn _ HT.out HRV.out).mono ?_; rintro e W1 ⟨rfl, hb1⟩)
        have hsz1 : w.heap.size ≤ W1.heap.size := hb1.size
        go_loopw [] (fun wr => ∃ (pos fuel : Nat) (acc : List UInt8), Lib.IsBuilderF 53 5 W1.heap.size W1.heap.size (Lib.byteCells acc) wr ∧ wr.heap[W1.heap.size + 1]? = some (.stringIter a1 pos) ∧ Below W1.heap.size W1 wr ∧ Hid (acc ++ getFrom a0 a1 fuel pos = full) ∧ a1.size ≤ pos + fuel ∧ acc.length ≤ pos) (fun wr => a1.size - wr.iterPos (W1.heap.size + 1))
        case atStart =>
          refine ⟨0, a1.size, [], (Lib.IsBuilderF.of (Lib.fresh_isBuilder 53 5 W1)).alloc _, ?_, ((Below.refl _ W1).alloc (Nat.le_refl _) _).alloc (by simp) _, Lib.hid (by rw [← HF.out]; rfl), by omega, by simp⟩
          have := World.iter_heap (W1.alloc (.cells #[.pointer none, .slice none 0 0] 53)) a1 0
          simpa using this
        case round =>
          obtain ⟨pos, fuel, acc, hI, hit, hbw, hget, hfu, hal⟩ := hrel
          have hsz : W1.heap.size + 1 < wr.heap.size := (Array.getElem?_eq_some_iff.1 hit).1
          by_cases hp : pos < a1.size
          · have hnx : ∀ ty, (Instr.next (.pointer (some ⟨W1.heap.size + 1, 0, none⟩)) true ty).run Tryd.prog wr = _ := fun ty => Lib.run_next_any_at wr (W1.heap.size + 1) a1 pos ty hit hp
            have hwd := Lib.decode_width_pos a1 pos hp
            have hd0 : (Utf8.decode a1 pos).1 ≤ 1114111 := by
              rw [← Lib.decodeL_drop a1 pos, Lib.decodeL_N]
              rcases Lib.decodeN_shape (a1.data.toList.drop pos).length ((a1.data.toList.drop pos).getD 0 0).toNat ((a1.data.toList.drop pos).getD 1 0).toNat ((a1.data.toList.drop pos).getD 2 0).toNat ((a1.data.toList.drop pos).getD 3 0).toNat with ⟨c, e⟩ | ⟨c1, c2, c3, cv, e⟩ | ⟨c1, c2, c3, c4, cv, cs, e⟩ | ⟨c1, c2, c3, c4, c5, cv, cw, e⟩ | e <;> rw [e] <;> dsimp only <;> omega
            have hI2 := hI.iterAt hit (pos + (Utf8.decode a1 pos).2)
            have hit2 := Lib.iterAt_heap wr (W1.heap.size + 1) a1 pos (pos + (Utf8.decode a1 pos).2) hit
            have hbw2 := Lib.below_iterAt hbw (k := W1.heap.size + 1) (by omega) a1 (pos + (Utf8.decode a1 pos).2)
            have hsz2 : W1.heap.size ≤ (wr.iterAt (W1.heap.size + 1) a1 (pos + (Utf8.decode a1 pos).2)).heap.size := by rw [Lib.iterAt_size]; omega
            obtain ⟨f, rfl⟩ : ∃ f, fuel = f + 1 := ⟨fuel - 1, by omega⟩
            go_wp2_with (go_at_call 38; refine (Tryd.Builder_WriteByte_k W1.heap.size W1.heap.size _ ((48 + ((Utf8.decode a1 pos).1 : Int) - a0) % 256) _ hI2 (by rw [Lib.byteCells_length]; omega) hsz2).mono ?_; rintro e W2 ⟨rfl, h1, b1, k1⟩)
            go_roundw
            case rel =>
              refine ⟨pos + (Utf8.decode a1 pos).2, f, acc ++ [UInt8.ofNat ((48 + ((Utf8.decode a1 pos).1 : Int) - a0) % 256).toNat], ?_, k1.iter hit2 (by omega), hbw2.trans b1, Lib.hid ?_, by omega, by simp; omega⟩
              · rw [Lib.byteCells_append, byteCells_one _ (by omega) (by omega)]; exact Or.inr h1
              · have hg := hget.out
                rw [← hg]
                conv => rhs; unfold getFrom
                rw [if_pos hp]
                simp
            case measure =>
              simp only [World.iterPos, k1.iter hit2 (by omega), hit]
              omega
          · have hnx : ∀ ty, (Instr.next (.pointer (some ⟨W1.heap.size + 1, 0, none⟩)) true ty).run Tryd.prog wr = _ := fun ty => Lib.run_next_end_at wr (W1.heap.size + 1) a1 pos ty hit hp
            go_wp2_with (go_at_call 37; refine (Tryd.Builder_String_any_k W1.heap.size W1.heap.size acc _ hI (by omega)).mono ?_; rintro e W2 ⟨rfl, _, b1, _⟩)
            go_ret2
            have hend : getFrom a0 a1 fuel pos = [] := by
              cases fuel with
              | zero => rfl
              | succ f => simp [getFrom, hp]
            have hg := hget.out
            rw [hend, List.append_nil] at hg
            have hh2 : (⟨full.toArray⟩ : ByteArray) = r1 ∧ true = r2 := by simpa using HH.out
            obtain ⟨rfl, rfl⟩ := hh2
            subst hg
            exact ⟨rfl, hb1.trans ((hbw.trans b1).mono hsz1)⟩
  · rw [if_neg hs] at h
    cases h
end Go.Proofs.YtenifjkiiaahiaaDoor.Print
