/- Package utf's Bad, Runes and Text: what they answer, as plain functions over the model's own decoder, and their contracts. -/
import Derived.Test.YtngaeggnjfhnfaaDoorFT
import Derived.WalkKit
import Derived.BigCall
import Derived.Lib.RuneCount
import Derived.Lib.TrimUEq
import Derived.Lib.RuneBytes
import Derived.Lib.Hide
import Derived.Test.YtngaeggnjfhnfaaDoorUtf
namespace Go.Proofs.YtngaeggnjfhnfaaDoor.Print
open Go.RowKit Go.Proofs.YtngaeggnjfhnfaaDoor.Utf Go.Proofs.YtngaeggnjfhnfaaDoorW.PrintWords Go.Proofs.YtngaeggnjfhnfaaDoorW.PrintLast Go.Proofs.YtngaeggnjfhnfaaDoorW.PrintMore
set_option linter.unusedVariables false
set_option linter.unusedSimpArgs false

/-- Where no code point begins, from a place on. -/
def badFrom (s : ByteArray) : Nat → Nat → Int
  | 0, _ => -1
  | f + 1, p => if p < s.size then (if (Utf8.decode s p).1 = 65533 ∧ (Utf8.decode s p).2 = 1 then (p : Int) else badFrom s f (p + (Utf8.decode s p).2)) else -1
def utf_Bad.f (s : ByteArray) : Option Int := if s.size < 9223372036854775807 then some (badFrom s s.size 0) else none
/-- The code points, from a place on. -/
def runesFrom (s : ByteArray) : Nat → Nat → List Int
  | 0, _ => []
  | f + 1, p => if p < s.size then ((Utf8.decode s p).1 : Int) :: runesFrom s f (p + (Utf8.decode s p).2) else []
def utf_Runes.f (s : ByteArray) : Option (List Int × Bool) :=
  if s.size < 35184372088832 then (if badFrom s s.size 0 ≥ 0 then some ([], false) else some (runesFrom s s.size 0, true)) else none
def utf_Text.f (l : List Int) : Option (ByteArray × Bool) :=
  if l.length < 35184372088000 then (if l.all Lib.validRune then some (⟨(encAll l).toArray⟩, true) else some (⟨#[]⟩, false)) else none

theorem badFrom_end (s : ByteArray) (f p : Nat) (h : ¬ p < s.size) : badFrom s f p = -1 := by
  cases f with
  | zero => rfl
  | succ f => simp [badFrom, h]
theorem runesFrom_end (s : ByteArray) (f p : Nat) (h : ¬ p < s.size) : runesFrom s f p = [] := by
  cases f with
  | zero => rfl
  | succ f => simp [runesFrom, h]
theorem ret_int {k : IntKind} {a b : Int} (h : a = b) : Ending.returned (.int k a) = .returned (.int k b) := by rw [h]
theorem heap_keeps {w W : World} (h : Below w.heap.size w W) {k : Nat} {o : Obj} (hk : w.heap[k]? = some o) : W.heap[k]? = some o := (h.block k (Array.getElem?_eq_some_iff.1 hk).1).trans hk
theorem decodeGo_at (s : ByteArray) (p : Nat) (h : p < s.size) : Lib.decodeGo (s.extract p s.size) = Utf8.decode s p := by
  have e : (s.extract p s.size).data.toList = s.data.toList.drop p := by
    rw [Lib.extract_data]
    exact List.take_of_length_le (by rw [List.length_drop, ← Lib.size_eq]; omega)
  unfold Lib.decodeGo
  rw [if_neg (by rw [ByteArray.size_extract]; omega), ← Lib.decodeL_drop s p, ← Lib.decodeL_drop (s.extract p s.size) 0, e, List.drop_zero]

set_option maxHeartbeats 4000000 in
set_option maxRecDepth 1000000 in
theorem utf_Bad.calls (a0 : ByteArray) (r : Int) (w : World) (hT : Tabs w) (h : utf_Bad.f a0 = some r) :
    Calls Tryd.prog 17 #[.string a0] w fun e w' => e = .returned (.int .i64 r) ∧ Below w.heap.size w w' := by
  unfold utf_Bad.f at h
  by_cases hs : a0.size < 9223372036854775807
  · rw [if_pos hs] at h
    have hr : badFrom a0 a0.size 0 = r := Option.some.inj h
    have HR := Lib.hid hr
    have HT := Lib.hid hT
    clear h hr hT
    go_enter Tryd.func17, Tryd.ntmps17
    go_wp2
    go_loopw [] (fun wr => ∃ (pos fuel : Nat), wr.heap[w.heap.size]? = some (.stringIter a0 pos) ∧ Below w.heap.size w wr ∧ Hid (badFrom a0 fuel pos = r) ∧ a0.size ≤ pos + fuel) (fun wr => a0.size - wr.iterPos w.heap.size)
    case atStart =>
      refine ⟨0, a0.size, ?_, (Below.refl _ w).alloc (Nat.le_refl _) _, HR, by omega⟩
      have := World.iter_heap w a0 0
      simpa using this
    case round =>
      obtain ⟨pos, fuel, hit, hbw, hbad, hfu⟩ := hrel
      have hsz : w.heap.size < wr.heap.size := (Array.getElem?_eq_some_iff.1 hit).1
      by_cases hp : pos < a0.size
      · have hnx : ∀ ty, (Instr.next (.pointer (some ⟨w.heap.size, 0, none⟩)) true ty).run Tryd.prog wr = _ := fun ty => Lib.run_next_any_at wr w.heap.size a0 pos ty hit hp
        have hwd := Lib.decode_width_pos a0 pos hp
        have hd1 := decode_le a0 pos
        have hit2 := Lib.iterAt_heap wr w.heap.size a0 pos (pos + (Utf8.decode a0 pos).2) hit
        have hbw2 := Lib.below_iterAt hbw (k := w.heap.size) (by omega) a0 (pos + (Utf8.decode a0 pos).2)
        obtain ⟨f, rfl⟩ : ∃ f, fuel = f + 1 := ⟨fuel - 1, by omega⟩
        have hTw : Tabs (wr.iterAt w.heap.size a0 (pos + (Utf8.decode a0 pos).2)) := Tabs_below HT hbw2
        have hlow : (pos : Int) ≤ (a0.size : Int) := by omega
        by_cases h1 : (Utf8.decode a0 pos).1 = 65533
        · have hq : (((Utf8.decode a0 pos).1 : Int) != 65533) = false := by rw [h1]; rfl
          have hd2 : Hid ((Utf8.decode a0 pos).1 = 65533) := Lib.hid h1
          clear h1
          go_wp2_with (go_at_call 29; refine (Tryd.utf8_DecodeRuneInString _ _ hTw).mono ?_)
          rintro e W1 ⟨rfl, hb1⟩
          have hdg := decodeGo_at a0 pos hp
          have hst2 := heap_keeps hb1 hit2
          rw [hdg]
          clear hdg
          by_cases hw1 : (Utf8.decode a0 pos).2 = 1
          · have hw2 : (((Utf8.decode a0 pos).2 : Int) == 1) = true := by rw [hw1]; rfl
            have hd3 := Lib.hid hw1
            clear hw1
            go_wp2
            go_ret
            refine ⟨?_, hbw2.trans (hb1.mono (by rw [Lib.iterAt_size]; omega))⟩
            have hbr := hbad.out
            unfold badFrom at hbr
            rw [if_pos hp, if_pos ⟨hd2.out, hd3.out⟩] at hbr
            exact ret_int hbr
          · have hw2 : (((Utf8.decode a0 pos).2 : Int) == 1) = false := by simp only [beq_eq_false_iff_ne, ne_eq]; omega
            have hd3 := Lib.hid hw1
            clear hw1
            go_wp2
            go_roundw
            case rel =>
              refine ⟨pos + (Utf8.decode a0 pos).2, f, hst2, hbw2.trans (hb1.mono (by rw [Lib.iterAt_size]; omega)), Lib.hid ?_, by omega⟩
              have hbr := hbad.out
              unfold badFrom at hbr
              rw [if_pos hp, if_neg (fun hh => hd3.out hh.2)] at hbr
              exact hbr
            case measure =>
              simp only [World.iterPos, hst2, hit]
              omega
        · have hq : (((Utf8.decode a0 pos).1 : Int) != 65533) = true := by simp only [bne_iff_ne, ne_eq]; omega
          have hd2 : Hid (¬ (Utf8.decode a0 pos).1 = 65533) := Lib.hid h1
          clear h1
          go_wp2
          go_roundw
          case rel =>
            refine ⟨pos + (Utf8.decode a0 pos).2, f, hit2, hbw2, Lib.hid ?_, by omega⟩
            have hbr := hbad.out
            unfold badFrom at hbr
            rw [if_pos hp, if_neg (fun hh => hd2.out hh.1)] at hbr
            exact hbr
          case measure =>
            simp only [World.iterPos, hit2, hit]
            omega
      · have hnx : ∀ ty, (Instr.next (.pointer (some ⟨w.heap.size, 0, none⟩)) true ty).run Tryd.prog wr = _ := fun ty => Lib.run_next_end_at wr w.heap.size a0 pos ty hit hp
        go_wp2
        go_ret
        have hbr := hbad.out
        rw [badFrom_end a0 fuel pos hp] at hbr
        exact ⟨ret_int hbr, hbw⟩
  · rw [if_neg hs] at h
    cases h

/-- A row of the call's own is no iterator. -/
theorem iter_ne {α : Type} {d : Kd α} {e base B pos : Nat} {W : World} {ok : Nat → Prop} {v : Value} {xs : List α} {s : ByteArray} (h : d.R e W base ok v xs) (hit : W.heap[B]? = some (.stringIter s pos)) : some B ≠ v.ownBlock := by
  intro e
  obtain ⟨_, _, _, q, _, cells, hc⟩ := (Kd.R_bound h).1 B e.symm
  rw [hit] at hc
  cases hc
theorem R_iterAt {α : Type} {d : Kd α} {e base B pos : Nat} {W : World} {ok : Nat → Prop} {v : Value} {xs : List α} {s : ByteArray} (h : d.R e W base ok v xs) (hit : W.heap[B]? = some (.stringIter s pos)) (pos' : Nat) : d.R e (W.iterAt B s pos') base ok v xs :=
  Kd.R_mono (Kd.R_move (Kd.R_bound h) (fun k hk => Lib.iterAt_other W B k s pos' (by
    obtain ⟨_, _, _, q, _, cells, hc⟩ := hk
    rintro rfl
    rw [hit] at hc
    cases hc))) (fun _ hk => hk.1)

theorem ints_at {k : IntKind} {w : World} {A : Option Addr} {l : List Int} (h : Kd.C (Kd.int k) w A l.length l) (hl : l ≠ []) :
    ∃ bk o, A = some ⟨bk, o, none⟩ ∧ bk < w.heap.size ∧ ∀ (j : Nat) x, l[j]? = some x → w.cell? ⟨bk, o + j, none⟩ = some (.int k x) := by
  obtain ⟨_, _, hc⟩ := h
  obtain ⟨⟨bk, o, sp⟩, rfl, hc2⟩ := hc (List.length_pos_iff.2 hl)
  have one : ∀ (j : Nat) x, l[j]? = some x → w.cell? (Addr.add ⟨bk, o, sp⟩ j) = some (.int k x) := fun j x hx => by
    obtain ⟨c, _, hK, hcell⟩ := hc2 j x hx
    have hK2 : c = [.int k x] := hK
    subst hK2
    have := hcell 0 _ rfl
    rwa [show (Kd.int k).sz = 1 from rfl, Nat.mul_one, Nat.add_zero] at this
  obtain ⟨x, r, rfl⟩ := List.exists_cons_of_ne_nil hl
  have h0 := one 0 x rfl
  rw [show (Addr.add ⟨bk, o, sp⟩ 0) = ⟨bk, o, sp⟩ by simp [Addr.add]] at h0
  obtain rfl := cell_spot h0
  exact ⟨bk, o, rfl, World.block_lt_of_cell? w _ h0, fun j x hx => by have := one j x hx; rwa [Addr.add_lit] at this⟩
theorem scalar_any (r : Int) (w : World) : Calls Tryd.prog 22 #[.int .i32 r] w fun e w' => e = .returned (.bool (Lib.validRune r)) ∧ w' = w := by
  go_enter Tryd.func22, Tryd.ntmps22
  go_wp2_with (go_at_call 32; refine (Tryd.utf8_ValidRune r _).mono ?_; rintro e w' ⟨rfl, rfl⟩)
  go_ret
  exact ⟨rfl, rfl⟩
theorem all_take_succ (l : List Int) (p : Int → Bool) (i : Nat) (x : Int) (hx : l[i]? = some x) (h : (l.take i).all p = true) : (l.take (i + 1)).all p = p x := by
  rw [List.take_add_one, hx, List.all_append, h]
  simp
theorem all_at (l : List Int) (p : Int → Bool) (i : Nat) (x : Int) (hx : l[i]? = some x) (h : p x = false) : l.all p = false := by
  rw [List.all_eq_false]
  exact ⟨x, List.mem_of_getElem? hx, by simp [h]⟩

end Go.Proofs.YtngaeggnjfhnfaaDoor.Print
