/- Package number's function values and spans: their contracts. -/
import Derived.Test.YtgobcejjefgkcaaDoorPrint0
import Derived.Test.YtgobcejjefgkcaaDoorShelf
import Derived.Test.YtgobcejjefgkcaaDoorNf
import Derived.Shelf.Strings.FuncGrows
import Derived.BigRegion
import Derived.Deep.RegionLaw
import Derived.OwnWalk
import Derived.LoopN
import Derived.Lib.Hide
import Derived.Laws.Runes
import Derived.WalkMore
import Derived.BigQuiet
namespace Go.Proofs.YtgobcejjefgkcaaDoor.Print
open Go.RowKit Go.Proofs.YtgobcejjefgkcaaDoorW.PrintWords Go.Proofs.YtgobcejjefgkcaaDoorW.PrintLast Go.Proofs.YtgobcejjefgkcaaDoorW.PrintMore
set_option linter.unusedVariables false
set_option linter.unusedSimpArgs false

def LenVar (w : World) : Prop := ∃ m : Int, w.cell? ⟨0, 0, none⟩ = some (.int .i64 m)
def Tabs (w : World) : Prop := LenVar w
theorem Tabs_below {w W : World} (h : Tabs w) (hb : Below w.heap.size w W) : Tabs W := by
  obtain ⟨m, hm⟩ := h
  exact ⟨m, (hb.cell (p := ⟨_, 0, none⟩) (World.block_lt_of_cell? w _ hm)).trans hm⟩
theorem Tabs_drewN {w : World} (h : Tabs w) (n : Nat) : Tabs (w.drewN n) := Tabs_below h (Drawn0.below ⟨⟨n, rfl⟩⟩)
theorem Tabs_drew {w : World} (h : Tabs w) : Tabs w.drew := Tabs_drewN h 1

/-! ### function values -/
theorem hmf (fn : Fn) (first cap : Array Value) (w : World) : (Instr.makeFunc fn first cap).run Tryd.prog w = .ok (.func fn first cap) w := rfl
theorem one_calls (c : Int) (w : World) : Calls Tryd.prog 35 #[.int .i32 c] w fun e w' =>
    e = .returned (.func (.func 50) #[] #[.pointer (some ⟨w.heap.size, 0, none⟩)]) ∧ w' = w.alloc (.cells #[.int .i32 c] 21) := by
  have hmf := hmf
  go_enter Tryd.func35, Tryd.ntmps35
  go_wp2
  go_ret
  exact ⟨rfl, rfl⟩
theorem one1_calls (k : Nat) (x : Nat) (c : UInt8) (W : World) (h : W.cell? ⟨k, 0, none⟩ = some (.int .i32 (c.toNat : Int))) : Calls Tryd.prog 50 #[.int .i32 (x : Int), .pointer (some ⟨k, 0, none⟩)] W fun e w' =>
    e = .returned (.bool (N.pOne c x)) ∧ Below W.heap.size W w' := by
  have hv : N.pOne c x = ((x : Int) == (c.toNat : Int)) := by
    unfold N.pOne
    by_cases e : x = c.toNat
    · rw [decide_eq_true e, e]; exact (beq_self_eq_true _).symm
    · rw [decide_eq_false e]; exact (beq_eq_false_iff_ne.2 (by omega)).symm
  rw [hv]
  clear hv
  go_enter Tryd.func50, Tryd.ntmps50
  go_wp2
  go_ret
  exact ⟨rfl, Below.refl _ _⟩
theorem digit_calls (x : Nat) (W : World) : Calls Tryd.prog 37 #[.int .i32 (x : Int)] W fun e w' => e = .returned (.bool (N.pDig x)) ∧ w' = W := by
  by_cases h1 : 48 ≤ x
  · by_cases h2 : x ≤ 57
    · have e : N.pDig x = true := by unfold N.pDig; simp [h1, h2]
      have k1 : decide ((48 : Int) ≤ (x : Int)) = true := decide_eq_true (by omega)
      have k2 : decide ((x : Int) ≤ 57) = true := decide_eq_true (by omega)
      rw [e]
      clear e h1 h2
      go_enter Tryd.func37, Tryd.ntmps37
      go_wp2
      go_ret
      exact ⟨rfl, rfl⟩
    · have e : N.pDig x = false := by unfold N.pDig; simp [h2]
      have k1 : decide ((48 : Int) ≤ (x : Int)) = true := decide_eq_true (by omega)
      have k2 : decide ((x : Int) ≤ 57) = false := decide_eq_false (by omega)
      rw [e]
      clear e h1 h2
      go_enter Tryd.func37, Tryd.ntmps37
      go_wp2
      go_ret
      exact ⟨rfl, rfl⟩
  · have e : N.pDig x = false := by unfold N.pDig; simp [h1]
    have k1 : decide ((48 : Int) ≤ (x : Int)) = false := decide_eq_false (by omega)
    rw [e]
    clear e h1
    go_enter Tryd.func37, Tryd.ntmps37
    go_wp2
    go_ret
    exact ⟨rfl, rfl⟩
theorem one_pred (c : UInt8) (k : Nat) (w : World) (h : w.cell? ⟨k, 0, none⟩ = some (.int .i32 (c.toNat : Int))) : PredGrows Tryd.prog 50 #[.pointer (some ⟨k, 0, none⟩)] (N.pOne c) w :=
  fun W x _ hb => one1_calls k x c W ((hb.cell (p := ⟨k, 0, none⟩) (World.block_lt_of_cell? w _ h)).trans h)
theorem digit_pred (w : World) : PredGrows Tryd.prog 37 #[] N.pDig w :=
  fun W x _ hb => (digit_calls x W).mono fun e w' ⟨he, hw⟩ => ⟨he, hw ▸ Below.refl _ _⟩
theorem one_enters : ∀ args w, (callFunc 50 args).run Tryd.prog w = .ok (.enter 50 args) w := enters_of Tryd.func50 (by kernel_rfl) rfl
theorem digit_enters : ∀ args w, (callFunc 37 args).run Tryd.prog w = .ok (.enter 37 args) w := enters_of Tryd.func37 (by kernel_rfl) rfl

/-! ### spans -/
structure FV where
  (g : Nat) (lb : Array Value) (p : Nat → Bool)
def fvV (x : FV) : Value := .func (.func x.g) #[] x.lb
def spansGo : List FV → ByteArray → List Int × ByteArray
  | [], s => ([], s)
  | x :: r, s => (((s.size : Int) - (Lib.trimLeftF x.p s).size) :: (spansGo r (Lib.trimLeftF x.p s)).1, (spansGo r (Lib.trimLeftF x.p s)).2)
theorem get_exS {α : Type} (l : List α) (i : Nat) (h : i < l.length) : ∃ x, l[i]? = some x := ⟨_, List.getElem?_eq_getElem h⟩
theorem idx_fv (n c i bk : Nat) (W : World) (hi : i < n) :
    (Instr.indexAt 71 (.slice (some ⟨bk, 0, none⟩) n c) (.int .i64 (i : Int))).run Tryd.prog W = .ok (.pointer (some ⟨bk, i, none⟩)) W := by
  have ht : Tryd.prog.underlying 71 = some (.slice (Tryd.prog.elem 71)) := by kernel_rfl
  have he : Tryd.prog.elem 71 = 58 := by kernel_rfl
  have hz : ∀ w, (Go.sizeOf 58).run Tryd.prog w = .ok 1 w := fun w => by kernel_rfl
  rw [run_indexAt_slice _ _ _ _ _ _ _ ht, he, if_pos ⟨by omega, by omega⟩, hz]
  simp [Result.andThen, Addr.add_lit]

set_option maxHeartbeats 8000000 in
set_option maxRecDepth 1000000 in
theorem spans_calls (fs : List FV) (s : ByteArray) (bk : Nat) (w : World) (hs : s.size ≤ 1000000000) (hn : fs.length ≤ 3) (hbk : w.heap[bk]? = some (.cells (fs.map fvV).toArray 58 (0, 0)))
    (he : ∀ x ∈ fs, ∀ args w, (callFunc x.g args).run Tryd.prog w = .ok (.enter x.g args) w) (hp : ∀ x ∈ fs, PredGrows Tryd.prog x.g x.lb x.p w) :
    Calls Tryd.prog 34 #[.string s, .slice (some ⟨bk, 0, none⟩) fs.length fs.length] w fun e w' =>
      ∃ v, e = .returned (.tuple #[v, .bool (spansGo fs s).2.toList.isEmpty]) ∧ Kd.R (Kd.int .i64) 3 w' w.heap.size (fun _ => True) v (spansGo fs s).1 ∧ Below w.heap.size w w' := by
  have hlt := blk_lt hbk
  have HE := Lib.hid he
  have HP := Lib.hid hp
  have HB := Lib.hid hbk
  clear he hp hbk
  go_enter Tryd.func34, Tryd.ntmps34
  go_wp2
  go_loopw [0, 6, 12] (fun v0 v6 v12 wx => ∃ (i : Nat) (acc : List Int) (t : ByteArray), v0 = .string t ∧ v12 = .int .i64 i ∧ i ≤ fs.length ∧ Kd.R (Kd.int .i64) 3 wx w.heap.size (fun _ => True) v6 acc ∧ Below w.heap.size w wx ∧ acc.length = i ∧ t.size ≤ s.size ∧ Hid (spansGo fs s = (acc ++ (spansGo (fs.drop i) t).1, (spansGo (fs.drop i) t).2))) (fun v0 v6 v12 wx => fs.length - (RowKit.intOf v12).toNat)
  case atStart => exact ⟨0, [], s, rfl, rfl, Nat.zero_le _, Kd.R_nil _ _ _ _ _, Below.refl _ _, rfl, Nat.le_refl _, Lib.hid (by simp)⟩
  case round =>
    obtain ⟨i, acc, t, rfl, rfl, hil, hR, hb, hal, hts, hgo⟩ := hrel
    have hsz := hb.size
    by_cases hi : i < fs.length
    · obtain ⟨x, hx⟩ := get_exS fs i hi
      have hxm : x ∈ fs := List.mem_of_getElem? hx
      have hia := fun W => idx_fv fs.length fs.length i bk W hi
      have hB1 := (hb.block bk hlt).trans HB.out
      have hc0 : wr.cell? ⟨bk, i, none⟩ = some (.func (.func x.g) #[] x.lb) := (blk_cell hB1 i).trans (by simp [hx, fvV])
      have hcall := Tryd.strings_TrimLeftFunc_grows x.g x.lb (HE.out x hxm) x.p t wr ((HP.out x hxm).later hb)
      have hsm := trimLeftF_size x.p t
      have hdr : fs.drop i = x :: fs.drop (i + 1) := by
        obtain ⟨h1, h2⟩ := List.getElem?_eq_some_iff.1 hx
        rw [← h2]; exact List.drop_eq_getElem_cons h1
      have hgo2 := hgo.out
      rw [hdr] at hgo2
      simp only [spansGo] at hgo2
      obtain ⟨u, hu⟩ : ∃ u, u = Lib.trimLeftF x.p t := ⟨_, rfl⟩
      rw [← hu] at hcall hsm hgo2
      have HC := Lib.hid hcall
      have HG := Lib.hid hgo2
      obtain ⟨g, lb, p⟩ := x
      simp only at hc0
      clear hx hxm hdr hcall hgo2 hgo hB1 hu
      have hw1 : -9223372036854775808 ≤ (t.size : Int) - (u.size : Int) := by omega
      have hw2 : (t.size : Int) - (u.size : Int) ≤ 9223372036854775807 := by omega
      go_wp2_with (first
        | (go_at_call 49; (with_reducible refine HC.out.mono ?_); rintro e W2 ⟨rfl, b2⟩; have hb2 := below_step hb b2; have hR2 := Kd.R_mono (Kd.R_move (Kd.R_bound hR) (fun k hk => b2.block k hk.2.2.1)) (fun _ _ => trivial); have hsz2 := hb2.size)
        | (((with_reducible refine gate_builtin (b := .append) (xs := #[.tmp 19, .tmp 25]) rfl ?_); at_builtin; refine Kd.R_append (Kd.int .i64) (w0 := w) w.heap.size rfl (.tmp 19) (.tmp 25) 48 3 (.int .i64 0) 8 rfl Tryd.underlying48 (by kernel_rfl) rfl (by decide) (by omega) u6 acc ((t.size : Int) - (u.size : Int)) [.int .i64 ((t.size : Int) - (u.size : Int))] (fun _ => True) (fun _ => False) rfl (by simp [Act.eval]) ?aP (fun _ hk => hk.elim) ?aF ?aO ?aB ?aS ?aL ?_; (case aP => exact rfl); (case aB => exact hb2); (case aF => exact (fun _ _ => trivial)); (case aO => exact hR2); (case aS => exact hsz2); (case aL => omega); intro v140 w10 ho hbn hg hat; clear hg hat)))
      go_roundw
      case rel => exact ⟨i + 1, acc ++ [(t.size : Int) - (u.size : Int)], u, rfl, by go_num, by omega, ho, hbn, by simp; omega, by omega, Lib.hid (by rw [HG.out]; simp)⟩
      case measure => simp [RowKit.intOf]; omega
    · have hie : i = fs.length := by omega
      subst hie
      have hgo2 := hgo.out
      rw [List.drop_of_length_le (Nat.le_refl _)] at hgo2
      simp only [spansGo, List.append_nil] at hgo2
      have HG := Lib.hid hgo2
      clear hgo hgo2
      go_wp2
      go_ret2
      refine ⟨u6, ?_, by rw [HG.out]; exact hR, hb⟩
      rw [HG.out]
      rfl
end Go.Proofs.YtgobcejjefgkcaaDoor.Print
/- strings.ContainsRune at the text "#@,." and any rune that a decoder hands out; package number's test for strange runes. -/
namespace Go.Proofs.YtgobcejjefgkcaaDoor.Print
open Go.RowKit Go.Proofs.YtgobcejjefgkcaaDoorW.PrintWords Go.Proofs.YtgobcejjefgkcaaDoorW.PrintLast Go.Proofs.YtgobcejjefgkcaaDoorW.PrintMore
set_option linter.unusedVariables false
set_option linter.unusedSimpArgs false

abbrev sortsB : ByteArray := ⟨#[35, 64, 44, 46]⟩
theorem enc_high (x : Nat) (h : 128 ≤ x) : ∃ a b c d : UInt8, (Utf8.encode (x : Int) = ⟨#[a, d]⟩ ∨ Utf8.encode (x : Int) = ⟨#[a, b, d]⟩ ∨ Utf8.encode (x : Int) = ⟨#[a, b, c, d]⟩) ∧ 128 ≤ d.toNat := by
  have hd : ∀ n : Nat, 128 ≤ (UInt8.ofNat (128 + n % 64)).toNat := fun n => by rw [UInt8.toNat_ofNat']; omega
  unfold Utf8.encode
  obtain ⟨c, hc⟩ : ∃ c, (if Utf8.valid (x : Int) then ((x : Int)).toNat else Utf8.runeError) = c := ⟨_, rfl⟩
  have hc2 : 128 ≤ c := by
    rw [← hc]
    split
    · omega
    · decide
  rw [hc]
  simp only
  rw [if_neg (by omega)]
  split
  · exact ⟨_, 0, 0, _, .inl rfl, hd c⟩
  split
  · exact ⟨_, _, 0, _, .inr (.inl rfl), hd c⟩
  · exact ⟨_, _, _, _, .inr (.inr rfl), hd c⟩

theorem sorts_dec (pos : Nat) (h : pos < 4) : (Utf8.decode sortsB pos).2 = 1 ∧ (Utf8.decode sortsB pos).1 < 128 := by
  match pos, h with
  | 0, _ => exact ⟨rfl, by decide⟩
  | 1, _ => exact ⟨rfl, by decide⟩
  | 2, _ => exact ⟨rfl, by decide⟩
  | 3, _ => exact ⟨rfl, by decide⟩
theorem no_byte (l : List UInt8) (d : UInt8) (h : d ∉ l) : Lib.indexByte l d = -1 := by
  rcases Int.lt_or_le (Lib.indexByte l d) 0 with hl | hl
  · have := Lib.indexByte_ge l d
    omega
  · exact absurd (List.mem_of_getElem? (Lib.indexByte_some (show Lib.indexByte l d = ((Lib.indexByte l d).toNat : Int) by omega)).1) h

set_option maxHeartbeats 4000000 in
set_option maxRecDepth 1000000 in
theorem indexRune_high (x : Nat) (h : 128 ≤ x) (hx : x ≤ 1114111) (w : World) : Calls Tryd.prog 51 #[.string sortsB, .int .i32 (x : Int)] w fun e w' => e = .returned (.int .i64 (-1)) ∧ Below w.heap.size w w' := by
  have h0 : decide ((0 : Int) ≤ (x : Int)) = true := decide_eq_true (by omega)
  have h1 : decide ((x : Int) < 128) = false := decide_eq_false (by omega)
  by_cases he : x = 65533
  · have h2 : ((x : Int) == 65533) = true := by rw [he]; rfl
    clear he h
    go_enter Tryd.func51, Tryd.ntmps51
    go_wp2
    go_loopw [] (fun wx => ∃ pos : Nat, pos ≤ 4 ∧ wx.heap[w.heap.size]? = some (.stringIter sortsB pos) ∧ Below w.heap.size w wx) (fun wx => 4 - wx.iterPos (w.heap.size))
    case atStart => exact ⟨0, Nat.zero_le _, World.iter_heap w sortsB 0, (Below.refl _ w).alloc (Nat.le_refl _) _⟩
    case round =>
      obtain ⟨pos, hp4, hit, hbw⟩ := hrel
      by_cases hp : pos < 4
      · have hnx : ∀ ty, (Instr.next (.pointer (some ⟨w.heap.size, 0, none⟩)) true ty).run Tryd.prog wr = _ := fun ty => Lib.run_next_any_at wr w.heap.size sortsB pos ty hit hp
        obtain ⟨k1, k2⟩ := sorts_dec pos hp
        obtain ⟨R, hR⟩ : ∃ R, (Utf8.decode sortsB pos).1 = R := ⟨_, rfl⟩
        rw [hR] at hnx k2
        rw [k1] at hnx
        have hit2 := Lib.iterAt_heap wr w.heap.size sortsB pos (pos + 1) hit
        have hbw2 := Lib.below_iterAt hbw (k := w.heap.size) (Nat.le_refl _) sortsB (pos + 1)
        have hne : ((R : Int) == 65533) = false := beq_eq_false_iff_ne.2 (by omega)
        have hz : wr.iterPos w.heap.size = pos := by simp [World.iterPos, hit]
        have hz2 : (wr.iterAt w.heap.size sortsB (pos + 1)).iterPos w.heap.size = pos + 1 := by simp [World.iterPos, hit2]
        clear hR k1 k2
        go_wp2
        go_roundw
        case rel => exact ⟨pos + 1, by omega, hit2, hbw2⟩
        case measure => rw [hz, hz2]; omega
      · have hnx : ∀ ty, (Instr.next (.pointer (some ⟨w.heap.size, 0, none⟩)) true ty).run Tryd.prog wr = _ := fun ty => Lib.run_next_end_at wr w.heap.size sortsB pos ty hit (by show ¬ pos < 4; exact hp)
        go_wp2
        go_ret
        exact ⟨rfl, hbw⟩
  · have h2 : ((x : Int) == 65533) = false := beq_eq_false_iff_ne.2 (by omega)
    by_cases hv : Lib.validRune (x : Int) = true
    · obtain ⟨a, b, c, d, hen, hd⟩ := enc_high x h
      have hc := Tryd.utf8_ValidRune (x : Int)
      rw [hv] at hc
      have hno : ∀ y : UInt8, y.toNat < 128 → ((y.toNat : Int) != (d.toNat : Int)) = true := fun y hy => bne_iff_ne.2 (by omega)
      have n1 := hno 64 (by decide)
      have n2 := hno 44 (by decide)
      have n3 := hno 46 (by decide)
      have hin : ∀ l : List UInt8, (∀ y ∈ l, y.toNat < 128) → ∀ w, Calls Tryd.prog 73 #[.string ⟨l.toArray⟩, .int .u8 (d.toNat : Int)] w fun e w' => e = .returned (.int .i64 (-1)) ∧ w' = w := fun l hl w => by
        have := Tryd.strings_IndexByte ⟨l.toArray⟩ (d.toNat : Int) w
        rwa [show ((d.toNat : Int)).toNat.toUInt8 = d by simp, no_byte _ d (fun hm => by have := hl d (by simpa using hm); omega)] at this
      have i1 := hin [44, 46] (by decide)
      have i2 := hin [46] (by decide)
      have i3 := hin [] (by decide)
      clear he h hv hno hin
      rcases hen with hen | hen | hen
      · clear n2 n3 i2 i3
        go_enter Tryd.func51, Tryd.ntmps51
        go_wp2_with (go_at_call 74; (with_reducible refine (hc _).mono ?_); rintro e W2 ⟨rfl, rfl⟩)
        go_step3
        go_wp2
        have e6 : (((sortsB[1]'(by decide)).toNat : Int) != (((⟨#[a, d]⟩ : ByteArray)[1]'(by show 1 < 2; omega)).toNat : Int)) = true := n1
        have w2 : IntKind.i64.wrap 2 = 2 := by decide
        have i1' : ∀ w, Calls Tryd.prog 73 #[.string (sortsB.extract 2 4), .int .u8 (((⟨#[a, d]⟩ : ByteArray)[1]'(by show 1 < 2; omega)).toNat : Int)] w fun e w' => e = .returned (.int .i64 (-1)) ∧ ∃ n, w' = w.drewN n := fun w => (i1 w).mono fun e w' ⟨h1, h2⟩ => ⟨h1, 0, h2⟩
        go_loopw [9] (fun v9 wx => v9 = .int .i64 1 ∧ wx = W2) (fun v9 wx => 0)
        case atStart => exact ⟨rfl, rfl⟩
        case round =>
          obtain ⟨rfl, rfl⟩ := hrel
          go_wp2
          go_step3
          go_wp2
          go_quiet (fail)
          go_wp2
          go_quiet ((go_at_call 73; (with_reducible refine (i1' _).mono ?_); rintro e W5 ⟨rfl, ⟨nd, rfl⟩⟩; exact ⟨rfl, _, Eq.trans (World.drewN_drewN _ _ _) (congrArg (World.drewN _) (Nat.add_assoc _ _ _))⟩))
          go_wp2
          rw [Exit.noGoto_ret]
          go_wp2
          rw [Exit.noGoto_ret]
          go_wp2
          go_ret
          exact ⟨rfl, Drawn0.below ⟨⟨_, rfl⟩⟩⟩
      · clear n1 n3 i1 i3
        go_enter Tryd.func51, Tryd.ntmps51
        go_wp2_with (go_at_call 74; (with_reducible refine (hc _).mono ?_); rintro e W2 ⟨rfl, rfl⟩)
        go_step3
        go_wp2
        have e6 : (((sortsB[2]'(by decide)).toNat : Int) != (((⟨#[a, b, d]⟩ : ByteArray)[2]'(by show 2 < 3; omega)).toNat : Int)) = true := n2
        have w2 : IntKind.i64.wrap 3 = 3 := by decide
        have i1' : ∀ w, Calls Tryd.prog 73 #[.string (sortsB.extract 3 4), .int .u8 (((⟨#[a, b, d]⟩ : ByteArray)[2]'(by show 2 < 3; omega)).toNat : Int)] w fun e w' => e = .returned (.int .i64 (-1)) ∧ ∃ n, w' = w.drewN n := fun w => (i2 w).mono fun e w' ⟨h1, h2⟩ => ⟨h1, 0, h2⟩
        go_loopw [9] (fun v9 wx => v9 = .int .i64 2 ∧ wx = W2) (fun v9 wx => 0)
        case atStart => exact ⟨rfl, rfl⟩
        case round =>
          obtain ⟨rfl, rfl⟩ := hrel
          go_wp2
          go_step3
          go_wp2
          go_quiet (fail)
          go_wp2
          go_quiet ((go_at_call 73; (with_reducible refine (i1' _).mono ?_); rintro e W5 ⟨rfl, ⟨nd, rfl⟩⟩; exact ⟨rfl, _, Eq.trans (World.drewN_drewN _ _ _) (congrArg (World.drewN _) (Nat.add_assoc _ _ _))⟩))
          go_wp2
          rw [Exit.noGoto_ret]
          go_wp2
          rw [Exit.noGoto_ret]
          go_wp2
          go_ret
          exact ⟨rfl, Drawn0.below ⟨⟨_, rfl⟩⟩⟩
      · clear n1 n2 i1 i2
        go_enter Tryd.func51, Tryd.ntmps51
        go_wp2_with (go_at_call 74; (with_reducible refine (hc _).mono ?_); rintro e W2 ⟨rfl, rfl⟩)
        go_step3
        go_wp2
        have e6 : (((sortsB[3]'(by decide)).toNat : Int) != (((⟨#[a, b, c, d]⟩ : ByteArray)[3]'(by show 3 < 4; omega)).toNat : Int)) = true := n3
        have w2 : IntKind.i64.wrap 4 = 4 := by decide
        have i1' : ∀ w, Calls Tryd.prog 73 #[.string ByteArray.empty, .int .u8 (((⟨#[a, b, c, d]⟩ : ByteArray)[3]'(by show 3 < 4; omega)).toNat : Int)] w fun e w' => e = .returned (.int .i64 (-1)) ∧ ∃ n, w' = w.drewN n := fun w => (i3 w).mono fun e w' ⟨h1, h2⟩ => ⟨h1, 0, h2⟩
        go_loopw [9] (fun v9 wx => v9 = .int .i64 3 ∧ wx = W2) (fun v9 wx => 0)
        case atStart => exact ⟨rfl, rfl⟩
        case round =>
          obtain ⟨rfl, rfl⟩ := hrel
          go_wp2
          go_step3
          go_wp2
          go_quiet (fail)
          go_wp2
          go_quiet ((go_at_call 73; (with_reducible refine (i1' _).mono ?_); rintro e W5 ⟨rfl, ⟨nd, rfl⟩⟩; exact ⟨rfl, _, Eq.trans (World.drewN_drewN _ _ _) (congrArg (World.drewN _) (Nat.add_assoc _ _ _))⟩))
          go_wp2
          rw [Exit.noGoto_ret]
          go_wp2
          rw [Exit.noGoto_ret]
          go_wp2
          go_ret
          exact ⟨rfl, Drawn0.below ⟨⟨_, rfl⟩⟩⟩
    · have hv2 : Lib.validRune (x : Int) = false := by simpa using hv
      have hc := Tryd.utf8_ValidRune (x : Int)
      rw [hv2] at hc
      clear hv hv2 he h
      go_enter Tryd.func51, Tryd.ntmps51
      go_wp2_with (go_at_call 74; (with_reducible refine (hc _).mono ?_); rintro e W2 ⟨rfl, rfl⟩)
      go_ret
      exact ⟨rfl, Below.refl _ _⟩
theorem containsRune_calls (x : Nat) (hx : x ≤ 1114111) (w : World) : Calls Tryd.prog 38 #[.string sortsB, .int .i32 (x : Int)] w fun e w' => e = .returned (.bool (decide (x = 35) || decide (x = 64) || decide (x = 44) || decide (x = 46))) ∧ Below w.heap.size w w' := by
  by_cases h : x < 128
  · have hv : (decide (x = 35) || decide (x = 64) || decide (x = 44) || decide (x = 46)) = decide (0 ≤ Lib.indexByte sortsB.data.toList ((x : Int)).toNat.toUInt8) := by
      have key : ∀ k : Fin 128, (decide (k.1 = 35) || decide (k.1 = 64) || decide (k.1 = 44) || decide (k.1 = 46)) = decide (0 ≤ Lib.indexByte sortsB.data.toList ((k.1 : Int)).toNat.toUInt8) := by decide +kernel
      exact key ⟨x, h⟩
    rw [hv]
    exact (Tryd.strings_ContainsRune_ascii sortsB (x : Int) w (by omega) (by omega)).mono fun e w' ⟨he, hw⟩ => ⟨he, hw ▸ Below.refl _ _⟩
  · have e : (decide (x = 35) || decide (x = 64) || decide (x = 44) || decide (x = 46)) = false := by
      rw [decide_eq_false (by omega : ¬ x = 35), decide_eq_false (by omega : ¬ x = 64), decide_eq_false (by omega : ¬ x = 44), decide_eq_false (by omega : ¬ x = 46)]; rfl
    rw [e]
    have hc := indexRune_high x (by omega) hx w
    clear e h
    go_enter Tryd.func38, Tryd.ntmps38
    go_wp2_with (go_at_call 51; (with_reducible refine hc.mono ?_); rintro e W2 ⟨rfl, hb⟩)
    go_ret
    exact ⟨rfl, hb⟩
set_option maxRecDepth 1000000 in
theorem strange_calls (x : Nat) (hx : x ≤ 1114111) (w : World) : Calls Tryd.prog 36 #[.int .i32 (x : Int)] w fun e w' => e = .returned (.bool (N.pOdd x)) ∧ Below w.heap.size w w' := by
  have hr := fun W => containsRune_calls x hx W
  unfold N.pOdd
  obtain ⟨d, hd⟩ : ∃ d, d = N.pDig x := ⟨_, rfl⟩
  have hdc := fun W => digit_calls x W
  rw [← hd] at hdc ⊢
  obtain ⟨c, hc⟩ : ∃ c, c = (decide (x = 35) || decide (x = 64) || decide (x = 44) || decide (x = 46)) := ⟨_, rfl⟩
  rw [← hc] at hr ⊢
  clear hd hc
  cases d with
  | true =>
    go_enter Tryd.func36, Tryd.ntmps36
    go_wp2_with (first | (go_at_call 37; (with_reducible refine (hdc _).mono ?_); rintro e W2 ⟨rfl, rfl⟩) | (go_at_call 38; (with_reducible refine (hr _).mono ?_); rintro e W3 ⟨rfl, b3⟩))
    go_ret
    exact ⟨rfl, Below.refl _ _⟩
  | false =>
    go_enter Tryd.func36, Tryd.ntmps36
    go_wp2_with (first | (go_at_call 37; (with_reducible refine (hdc _).mono ?_); rintro e W2 ⟨rfl, rfl⟩) | (go_at_call 38; (with_reducible refine (hr _).mono ?_); rintro e W3 ⟨rfl, b3⟩))
    go_ret
    exact ⟨by simp, b3⟩
theorem strange_pred (w : World) : PredGrows Tryd.prog 36 #[] N.pOdd w := fun W x hx hb => strange_calls x hx W
theorem strange_enters : ∀ args w, (callFunc 36 args).run Tryd.prog w = .ok (.enter 36 args) w := enters_of Tryd.func36 (by kernel_rfl) rfl
end Go.Proofs.YtgobcejjefgkcaaDoor.Print
