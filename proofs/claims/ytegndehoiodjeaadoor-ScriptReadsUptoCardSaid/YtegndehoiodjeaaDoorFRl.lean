/- The reference's ReadLine: what it answers, as a plain function, and its contract. -/
import Derived.Test.YtegndehoiodjeaaDoorFSr
import Derived.Test.YtegndehoiodjeaaDoorPR
import Derived.Test.YtegndehoiodjeaaDoorPN
namespace Go.Proofs.YtegndehoiodjeaaDoor.Print
open Go.RowKit Go.Proofs.YtegndehoiodjeaaDoorW.PrintWords Go.Proofs.YtegndehoiodjeaaDoorW.PrintLast Go.Proofs.YtegndehoiodjeaaDoorW.PrintMore
set_option linter.unusedVariables false
set_option linter.unusedSimpArgs false

/-! ### words as numbers and texts -/
theorem _root_.Go.Proofs.YtegndehoiodjeaaDoor.Q.read_nums {l : List (List UInt8)} {ts : List (List UInt8)} {ks : List Int} (h : l.length = 16) (h4 : l.getD 4 [] = [48] ∨ l.getD 4 [] = [49]) (hk : Q.allSome ((l.take 4).map Q.numL) = some ks) (ht : Q.allSome ((l.drop 5).map Q.bytesX) = some ts) :
    (Q.readW l = if -2147483648 ≤ ks.getD 2 0 ∧ ks.getD 2 0 ≤ 2147483647 then some ⟨ks.getD 0 0, ks.getD 1 0, ks.getD 2 0, ks.getD 3 0, decide (l.getD 4 [] = [49]), ts⟩ else none) ∧ ks.length = 4 := by
  unfold Q.readW
  rw [if_pos ⟨h, h4⟩, ht]
  match l, h with
  | w0 :: w1 :: w2 :: w3 :: w4 :: r, h =>
    simp only [List.take_succ_cons, List.take_zero, List.map_cons, List.map_nil, List.getD_cons_zero, List.getD_cons_succ, Q.allSome, Option.bind_some] at hk ⊢
    cases h0 : Q.numL w0 with
    | none => rw [h0] at hk; cases hk
    | some k0 =>
    cases h1 : Q.numL w1 with
    | none => rw [h0, h1] at hk; cases hk
    | some k1 =>
    cases h2 : Q.numL w2 with
    | none => rw [h0, h1, h2] at hk; cases hk
    | some k2 =>
    cases h3 : Q.numL w3 with
    | none => rw [h0, h1, h2, h3] at hk; cases hk
    | some k3 =>
      rw [h0, h1, h2, h3] at hk
      simp only [Option.bind_some, Option.map_some, Option.some.injEq] at hk
      subst hk
      simp
theorem _root_.Go.Proofs.YtegndehoiodjeaaDoor.Q.read_parts {l : List (List UInt8)} {c : Q.Cm} (h : Q.readW l = some c) : ∃ ks ts, Q.allSome ((l.take 4).map Q.numL) = some ks ∧ Q.allSome ((l.drop 5).map Q.bytesX) = some ts := by
  unfold Q.readW at h
  split at h
  · rename_i hc
    match l, hc.1 with
    | w0 :: w1 :: w2 :: w3 :: w4 :: r, h16 =>
      simp only [List.take_succ_cons, List.take_zero, List.map_cons, List.map_nil, List.getD_cons_zero, List.getD_cons_succ, Q.allSome, List.drop_succ_cons, List.drop_zero] at h ⊢
      cases h0 : Q.numL w0 with
      | none => rw [h0] at h; cases h
      | some k0 =>
      cases h1 : Q.numL w1 with
      | none => rw [h0, h1] at h; cases h
      | some k1 =>
      cases h2 : Q.numL w2 with
      | none => rw [h0, h1, h2] at h; cases h
      | some k2 =>
      cases h3 : Q.numL w3 with
      | none => rw [h0, h1, h2, h3] at h; cases h
      | some k3 =>
      cases h5 : Q.allSome (r.map Q.bytesX) with
      | none => rw [h0, h1, h2, h3, h5] at h; cases h
      | some ts => exact ⟨_, _, rfl, rfl⟩
  · cases h
theorem _root_.Go.Proofs.YtegndehoiodjeaaDoor.Q.read_failN {l : List (List UInt8)} (i : Nat) (hi : i ≤ 4) (hk : Q.allSome ((l.take i).map Q.numL) = none) : Q.readW l = none := by
  cases hp : Q.readW l with
  | none => rfl
  | some c =>
    obtain ⟨ks, ts, h1, _⟩ := Q.read_parts hp
    have h4 := Q.allSome_part (f := Q.numL) (l.take 4) i (by rw [List.take_take, Nat.min_eq_left hi]; exact hk)
    rw [h1] at h4
    cases h4
theorem _root_.Go.Proofs.YtegndehoiodjeaaDoor.Q.read_failT {l : List (List UInt8)} (i : Nat) (hk : Q.allSome (((l.drop 5).take i).map Q.bytesX) = none) : Q.readW l = none := by
  cases hp : Q.readW l with
  | none => rfl
  | some c =>
    obtain ⟨ks, ts, _, h1⟩ := Q.read_parts hp
    have h4 := Q.allSome_part (f := Q.bytesX) (l.drop 5) i hk
    rw [h1] at h4
    cases h4
def numA (ks : List Int) : Array Value := #[.int .i64 (ks.getD 0 0), .int .i64 (ks.getD 1 0), .int .i64 (ks.getD 2 0), .int .i64 (ks.getD 3 0)]
def txtA (ts : List ByteArray) : Array Value := #[.string (ts.getD 0 ⟨#[]⟩), .string (ts.getD 1 ⟨#[]⟩), .string (ts.getD 2 ⟨#[]⟩), .string (ts.getD 3 ⟨#[]⟩), .string (ts.getD 4 ⟨#[]⟩), .string (ts.getD 5 ⟨#[]⟩), .string (ts.getD 6 ⟨#[]⟩), .string (ts.getD 7 ⟨#[]⟩), .string (ts.getD 8 ⟨#[]⟩), .string (ts.getD 9 ⟨#[]⟩), .string (ts.getD 10 ⟨#[]⟩)]
theorem num_set (ks : List Int) (h : ks.length < 4) : (numA ks)[ks.length]? = some (.int .i64 0) ∧ ∀ v, (numA ks).setIfInBounds ks.length (.int .i64 v) = numA (ks ++ [v]) := by
  match ks, h with
  | [], _ => exact ⟨rfl, fun _ => rfl⟩
  | [_], _ => exact ⟨rfl, fun _ => rfl⟩
  | [_, _], _ => exact ⟨rfl, fun _ => rfl⟩
  | [_, _, _], _ => exact ⟨rfl, fun _ => rfl⟩
theorem txt_set (ts : List ByteArray) (h : ts.length < 11) : (txtA ts)[ts.length]? = some (.string ⟨#[]⟩) ∧ ∀ v, (txtA ts).setIfInBounds ts.length (.string v) = txtA (ts ++ [v]) := by
  match ts, h with
  | [], _ => exact ⟨rfl, fun _ => rfl⟩
  | [_], _ => exact ⟨rfl, fun _ => rfl⟩
  | [_, _], _ => exact ⟨rfl, fun _ => rfl⟩
  | [_, _, _], _ => exact ⟨rfl, fun _ => rfl⟩
  | [_, _, _, _], _ => exact ⟨rfl, fun _ => rfl⟩
  | [_, _, _, _, _], _ => exact ⟨rfl, fun _ => rfl⟩
  | [_, _, _, _, _, _], _ => exact ⟨rfl, fun _ => rfl⟩
  | [_, _, _, _, _, _, _], _ => exact ⟨rfl, fun _ => rfl⟩
  | [_, _, _, _, _, _, _, _], _ => exact ⟨rfl, fun _ => rfl⟩
  | [_, _, _, _, _, _, _, _, _], _ => exact ⟨rfl, fun _ => rfl⟩
  | [_, _, _, _, _, _, _, _, _, _], _ => exact ⟨rfl, fun _ => rfl⟩
theorem idx_num (g i : Nat) (W : World) (hi : i < 4) : (Instr.indexAt 41 (.pointer (some ⟨g, 0, none⟩)) (.int .i64 (i : Int))).run Tryd.prog W = .ok (.pointer (some ⟨g, i, none⟩)) W := by
  match i, hi with
  | 0, _ =>
    show (Instr.indexAt 41 (.pointer (some ⟨g, 0, none⟩)) (.int .i64 0)).run Tryd.prog W = .ok (.pointer (some ⟨g, 0, none⟩)) W
    kernel_rfl
  | 1, _ =>
    show (Instr.indexAt 41 (.pointer (some ⟨g, 0, none⟩)) (.int .i64 1)).run Tryd.prog W = .ok (.pointer (some ⟨g, 1, none⟩)) W
    kernel_rfl
  | 2, _ =>
    show (Instr.indexAt 41 (.pointer (some ⟨g, 0, none⟩)) (.int .i64 2)).run Tryd.prog W = .ok (.pointer (some ⟨g, 2, none⟩)) W
    kernel_rfl
  | 3, _ =>
    show (Instr.indexAt 41 (.pointer (some ⟨g, 0, none⟩)) (.int .i64 3)).run Tryd.prog W = .ok (.pointer (some ⟨g, 3, none⟩)) W
    kernel_rfl
theorem idx_txt (g i : Nat) (W : World) (hi : i < 11) : (Instr.indexAt 42 (.pointer (some ⟨g, 0, none⟩)) (.int .i64 (i : Int))).run Tryd.prog W = .ok (.pointer (some ⟨g, i, none⟩)) W := by
  match i, hi with
  | 0, _ =>
    show (Instr.indexAt 42 (.pointer (some ⟨g, 0, none⟩)) (.int .i64 0)).run Tryd.prog W = .ok (.pointer (some ⟨g, 0, none⟩)) W
    kernel_rfl
  | 1, _ =>
    show (Instr.indexAt 42 (.pointer (some ⟨g, 0, none⟩)) (.int .i64 1)).run Tryd.prog W = .ok (.pointer (some ⟨g, 1, none⟩)) W
    kernel_rfl
  | 2, _ =>
    show (Instr.indexAt 42 (.pointer (some ⟨g, 0, none⟩)) (.int .i64 2)).run Tryd.prog W = .ok (.pointer (some ⟨g, 2, none⟩)) W
    kernel_rfl
  | 3, _ =>
    show (Instr.indexAt 42 (.pointer (some ⟨g, 0, none⟩)) (.int .i64 3)).run Tryd.prog W = .ok (.pointer (some ⟨g, 3, none⟩)) W
    kernel_rfl
  | 4, _ =>
    show (Instr.indexAt 42 (.pointer (some ⟨g, 0, none⟩)) (.int .i64 4)).run Tryd.prog W = .ok (.pointer (some ⟨g, 4, none⟩)) W
    kernel_rfl
  | 5, _ =>
    show (Instr.indexAt 42 (.pointer (some ⟨g, 0, none⟩)) (.int .i64 5)).run Tryd.prog W = .ok (.pointer (some ⟨g, 5, none⟩)) W
    kernel_rfl
  | 6, _ =>
    show (Instr.indexAt 42 (.pointer (some ⟨g, 0, none⟩)) (.int .i64 6)).run Tryd.prog W = .ok (.pointer (some ⟨g, 6, none⟩)) W
    kernel_rfl
  | 7, _ =>
    show (Instr.indexAt 42 (.pointer (some ⟨g, 0, none⟩)) (.int .i64 7)).run Tryd.prog W = .ok (.pointer (some ⟨g, 7, none⟩)) W
    kernel_rfl
  | 8, _ =>
    show (Instr.indexAt 42 (.pointer (some ⟨g, 0, none⟩)) (.int .i64 8)).run Tryd.prog W = .ok (.pointer (some ⟨g, 8, none⟩)) W
    kernel_rfl
  | 9, _ =>
    show (Instr.indexAt 42 (.pointer (some ⟨g, 0, none⟩)) (.int .i64 9)).run Tryd.prog W = .ok (.pointer (some ⟨g, 9, none⟩)) W
    kernel_rfl
  | 10, _ =>
    show (Instr.indexAt 42 (.pointer (some ⟨g, 0, none⟩)) (.int .i64 10)).run Tryd.prog W = .ok (.pointer (some ⟨g, 10, none⟩)) W
    kernel_rfl
theorem beq_lit (s : ByteArray) (l : List UInt8) (b : Bool) (h : decide (U.L s = l) = b) : (s.toList == l) = b := by
  rw [U.toList_L]
  cases b with
  | true => rw [of_decide_eq_true h]; simp
  | false => exact beq_eq_false_iff_ne.2 (of_decide_eq_false h)

/-! ### the loop over bytes -/
/-- The words so far, and where the next one begins. -/
def LoopI (s : ByteArray) (i at_ : Nat) (acc : List ByteArray) : Prop :=
  (i ≤ s.size ∧ Q.splitC 32 (U.L s) = acc.map U.L ++ Q.splitC 32 ((U.L s).drop at_) ∧ ∀ b ∈ ((U.L s).drop at_).take (i - at_), b ≠ 32) ∨ (i = s.size + 1 ∧ Q.splitC 32 (U.L s) = acc.map U.L)
theorem LoopI.start (s : ByteArray) : LoopI s 0 0 [] := .inl ⟨Nat.zero_le _, rfl, fun b hb => by simp at hb⟩
theorem ext_mid (s : ByteArray) (at_ i : Nat) : U.L (s.extract at_ i) = ((U.L s).drop at_).take (i - at_) := U.L_ext s at_ i
theorem LoopI.atEnd {s : ByteArray} {at_ : Nat} {acc : List ByteArray} (h : LoopI s s.size at_ acc) (ha : at_ ≤ s.size) : LoopI s (s.size + 1) (s.size + 1) (acc ++ [s.extract at_ s.size]) := by
  rcases h with ⟨_, h2, h3⟩ | ⟨h1, _⟩
  · right
    refine ⟨rfl, ?_⟩
    have ht : ((U.L s).drop at_).take (s.size - at_) = (U.L s).drop at_ := List.take_of_length_le (by rw [List.length_drop, U.L_len]; exact Nat.le_refl _)
    rw [ht] at h3
    rw [h2, Q.splitC_free 32 _ h3, List.map_append, List.map_cons, List.map_nil, ext_mid, ht]
  · omega
theorem LoopI.space {s : ByteArray} {i at_ : Nat} {acc : List ByteArray} (h : LoopI s i at_ acc) (ha : at_ ≤ i) (hi : i < s.size) (hb : (U.L s)[i]? = some 32) : LoopI s (i + 1) (i + 1) (acc ++ [s.extract at_ i]) := by
  rcases h with ⟨_, h2, h3⟩ | ⟨h1, _⟩
  · left
    refine ⟨hi, ?_, fun b hb => by simp at hb⟩
    have hd : (U.L s).drop at_ = ((U.L s).drop at_).take (i - at_) ++ 32 :: (U.L s).drop (i + 1) := by
      obtain ⟨hlt, he⟩ := List.getElem?_eq_some_iff.1 hb
      have e1 : (U.L s).drop i = 32 :: (U.L s).drop (i + 1) := by rw [List.drop_eq_getElem_cons hlt, he]
      have e2 := (List.take_append_drop (i - at_) ((U.L s).drop at_)).symm
      rw [List.drop_drop, show at_ + (i - at_) = i by omega, e1] at e2
      exact e2
    have e3 : Q.splitC 32 ((U.L s).drop at_) = ((U.L s).drop at_).take (i - at_) :: Q.splitC 32 ((U.L s).drop (i + 1)) := by
      rw [← Q.splitC_app 32 _ _ h3, ← hd]
    rw [h2, e3, List.map_append, List.map_cons, List.map_nil, ext_mid, List.append_assoc]
    rfl
  · omega
theorem LoopI.other {s : ByteArray} {i at_ : Nat} {acc : List ByteArray} (h : LoopI s i at_ acc) (ha : at_ ≤ i) (hi : i < s.size) (b : UInt8) (hb : (U.L s)[i]? = some b) (hne : b ≠ 32) : LoopI s (i + 1) at_ acc := by
  rcases h with ⟨_, h2, h3⟩ | ⟨h1, _⟩
  · left
    refine ⟨hi, h2, fun x hx => ?_⟩
    rw [show i + 1 - at_ = (i - at_) + 1 by omega, List.take_add_one] at hx
    rcases List.mem_append.1 hx with hx | hx
    · exact h3 x hx
    · rw [List.getElem?_drop, show at_ + (i - at_) = i by omega, hb] at hx
      have : x = b := by simpa using hx
      rw [this]; exact hne
  · omega
theorem LoopI.done {s : ByteArray} {at_ : Nat} {acc : List ByteArray} (h : LoopI s (s.size + 1) at_ acc) : Q.splitC 32 (U.L s) = acc.map U.L := by
  rcases h with ⟨h1, _⟩ | ⟨_, h2⟩
  · omega
  · exact h2
theorem idx_row (n c i bk o : Nat) (A : Option Addr) (W : World) (hA : A = some ⟨bk, o, none⟩) (hi : i < n) :
    (Instr.indexAt 40 (.slice A n c) (.int .i64 (i : Int))).run Tryd.prog W = .ok (.pointer (some ⟨bk, o + i, none⟩)) W := by
  subst hA
  have ht : Tryd.prog.underlying 40 = some (.slice (Tryd.prog.elem 40)) := by kernel_rfl
  have he : Tryd.prog.elem 40 = 9 := by kernel_rfl
  have hz : ∀ w, (Go.sizeOf 9).run Tryd.prog w = .ok 1 w := fun w => by kernel_rfl
  rw [run_indexAt_slice _ _ _ _ _ _ _ ht, he, if_pos ⟨by omega, by omega⟩, hz]
  simp [Result.andThen, Addr.add_lit]
theorem list4 (l : List Int) (h : l.length = 4) : ∃ a b c d, l = [a, b, c, d] := by
  match l, h with
  | [a, b, c, d], _ => exact ⟨a, b, c, d, rfl⟩
theorem list11 (l : List ByteArray) (h : l.length = 11) : ∃ a b c d e f g h i j k, l = [a, b, c, d, e, f, g, h, i, j, k] := by
  match l, h with
  | [a, b, c, d, e, f, g, h, i, j, k], _ => exact ⟨a, b, c, d, e, f, g, h, i, j, k, rfl⟩
def figureheadref25_ReadLine.g (s : ByteArray) : Option (S29 × Bool) :=
  if s.size ≤ 1000000000 then (match Q.readW (Q.splitC 32 (U.L s)) with
    | none => some (z29, false)
    | some c => some (ofCm c, true)) else none

set_option maxHeartbeats 8000000 in
set_option maxRecDepth 1000000 in
theorem rl_bad (s : ByteArray) (w : World) (hs : s.size ≤ 1000000000) (h : ¬ ((Q.splitC 32 (U.L s)).length = 16 ∧ ((Q.splitC 32 (U.L s)).getD 4 [] = [48] ∨ (Q.splitC 32 (U.L s)).getD 4 [] = [49]))) :
    Calls Tryd.prog 9 #[.string s] w fun e w' => e = .returned (.tuple #[.agg (cmdV z29), .bool false]) ∧ Below w.heap.size w w' := by
  obtain ⟨W1, hW1⟩ : ∃ W1, W1 = w.alloc (.cells #[.int .i64 0, .int .i64 0, .string ⟨#[]⟩, .int .i32 0, .string ⟨#[]⟩, .string ⟨#[]⟩, .string ⟨#[]⟩, .string ⟨#[]⟩, .string ⟨#[]⟩, .string ⟨#[]⟩, .string ⟨#[]⟩, .string ⟨#[]⟩, .bool false, .string ⟨#[]⟩, .int .i64 0, .string ⟨#[]⟩] 29) := ⟨_, rfl⟩
  have hs1 : W1.heap.size = w.heap.size + 1 := by rw [hW1]; show (w.heap.push _).size = _; simp
  have hb1 : Below w.heap.size w W1 := by rw [hW1]; exact below_alloc (Below.refl _ w) _
  have hr1 : W1.heap[w.heap.size]? = some (.cells (cmdV z29) 29 (0, 0)) := by
    rw [hW1]
    exact heap_alloc_new w _
  have HW1 := Lib.hid hW1
  have HR1 := Lib.hid hr1
  have HH := Lib.hid h
  clear hW1 hr1 h
  go_enter Tryd.func9, Tryd.ntmps9
  go_wp2
  rw [← HW1.out]
  go_loopw [4, 5, 6] (fun v4 v5 v6 wx => ∃ (i at_ : Nat) (acc : List ByteArray), v6 = .int .i64 i ∧ v5 = .int .i64 at_ ∧ at_ ≤ i ∧ i ≤ s.size + 1 ∧ Kd.string.R 9 wx W1.heap.size (fun _ => True) v4 acc ∧ Below W1.heap.size W1 wx ∧ acc.length ≤ i ∧ Hid (LoopI s i at_ acc)) (fun v4 v5 v6 wx => s.size + 1 - (RowKit.intOf v6).toNat)
  case atStart => exact ⟨0, 0, [], rfl, rfl, Nat.le_refl _, Nat.zero_le _, Kd.R_nil _ _ _ _ _, Below.refl _ W1, Nat.le_refl _, Lib.hid (LoopI.start s)⟩
  case round =>
    obtain ⟨i, at_, acc, rfl, rfl, hai, his, hR, hb, hal, hI⟩ := hrel
    have hsz := hb.size
    by_cases hi : i ≤ s.size
    · by_cases hie : i = s.size
      · have HI := Lib.hid ((hie ▸ hI.out).atEnd (hie ▸ hai))
        subst hie
        have hse : ((s.size : Int) == (s.size : Int)) = true := beq_self_eq_true _
        go_wp2_with (((with_reducible refine gate_builtin (b := .append) (xs := #[.tmp 32, .tmp 37]) rfl ?_); at_builtin; refine Kd.R_append Kd.string (w0 := W1) W1.heap.size rfl (.tmp 32) (.tmp 37) 40 9 (.string ByteArray.empty) 16 rfl Tryd.underlying40 (by kernel_rfl) rfl (by decide) (by omega) u4 acc (s.extract at_ s.size) [.string (s.extract at_ s.size)] (fun _ => True) (fun _ => False) rfl rfl ?aP (fun _ hk => hk.elim) ?aF ?aO ?aB ?aS ?aL ?_; (case aP => exact rfl); (case aB => exact hb); (case aF => exact (fun _ _ => trivial)); (case aO => exact hR); (case aS => exact hsz); (case aL => omega); intro v140 w10 ho hbn hg hat; clear hg hat))
        go_roundw
        case rel => exact ⟨s.size + 1, s.size + 1, _, by first | rfl | go_num, by first | rfl | go_num, Nat.le_refl _, Nat.le_refl _, ho, hbn, by simp; omega, HI⟩
        case measure => first | (simp [RowKit.intOf]; done) | (simp [RowKit.intOf]; omega)
      · have hlt : i < s.size := by omega
        obtain ⟨b, hbe⟩ : ∃ b, (U.L s)[i]? = some b := ⟨_, List.getElem?_eq_getElem (by rw [U.L_len]; exact hlt)⟩
        have hne : ((i : Int) == (s.size : Int)) = false := beq_eq_false_iff_ne.2 (by omega)
        have hbs : s[i]'hlt = b := by
          have h1 := List.getElem?_eq_some_iff.1 hbe
          exact h1.2
        by_cases h32 : b = 32
        · have HI := Lib.hid (hI.out.space hai hlt (by rw [hbe, h32]))
          have hb32 : (((s[i]'hlt).toNat : Int) == 32) = true := by rw [hbs, h32]; rfl
          clear hbs hbe h32 hie
          go_wp2_with (((with_reducible refine gate_builtin (b := .append) (xs := #[.tmp 32, .tmp 37]) rfl ?_); at_builtin; refine Kd.R_append Kd.string (w0 := W1) W1.heap.size rfl (.tmp 32) (.tmp 37) 40 9 (.string ByteArray.empty) 16 rfl Tryd.underlying40 (by kernel_rfl) rfl (by decide) (by omega) u4 acc (s.extract at_ i) [.string (s.extract at_ i)] (fun _ => True) (fun _ => False) rfl rfl ?aP (fun _ hk => hk.elim) ?aF ?aO ?aB ?aS ?aL ?_; (case aP => exact rfl); (case aB => exact hb); (case aF => exact (fun _ _ => trivial)); (case aO => exact hR); (case aS => exact hsz); (case aL => omega); intro v140 w10 ho hbn hg hat; clear hg hat))
          go_roundw
          case rel => exact ⟨i + 1, i + 1, _, by first | rfl | go_num, by first | rfl | go_num, Nat.le_refl _, by omega, ho, hbn, by simp; omega, HI⟩
          case measure => first | (simp [RowKit.intOf]; done) | (simp [RowKit.intOf]; omega)
        · have HI := Lib.hid (hI.out.other hai hlt b hbe h32)
          have hb32 : (((s[i]'hlt).toNat : Int) == 32) = false := by rw [hbs]; exact beq_eq_false_iff_ne.2 (Pure.byte_ne b 32 h32)
          clear hbs hbe h32 hie
          go_wp2
          go_roundw
          case rel => exact ⟨i + 1, at_, acc, by first | rfl | go_num, rfl, by omega, by omega, hR, hb, by omega, HI⟩
          case measure => first | (simp [RowKit.intOf]; done) | (simp [RowKit.intOf]; omega)
    · have hie : i = s.size + 1 := by omega
      subst hie
      have hwsp := hI.out.done
      obtain ⟨A4, c4, rfl⟩ := Kd.R_slice hR
      have hrd := (Kd.R_reads' hR).2.2
      have hacl : acc.length ≤ 1000000002 := by omega
      have hr2 := (hb.block w.heap.size (by omega)).trans HR1.out
      have hbw := below_then hb1 hb1.size hb
      have hdl : decide ((s.size : Int) + 1 ≤ (s.size : Int)) = false := decide_eq_false (by omega)
      have HR2 := Lib.hid hr2
      have hrf := blk_frozen hr2
      obtain ⟨q0, q1, q2, q3, q4, q5, q6, q7, q8, q9, q10, q11, q12, q13, q14, q15⟩ := zero_cells HR2.out
      have hh := HH.out
      rw [hwsp, List.length_map] at hh
      by_cases h16 : acc.length = 16
      · have hn : ((acc.length : Int) != 16) = false := by rw [h16]; rfl
        obtain ⟨bk, o, hA, hbk, hcells⟩ := strs_at hrd (fun e => by rw [e] at h16; cases h16)
        obtain ⟨w4, hw4⟩ : ∃ w4, acc[4]? = some w4 := ⟨_, List.getElem?_eq_getElem (by omega)⟩
        have hia4 := fun W => idx_row acc.length c4 4 bk o A4 W hA (by omega)
        have hc4 := hcells 4 w4 hw4
        rw [show ((4 : Nat) : Int) = 4 from rfl] at hia4
        have hg4 : (acc.map U.L).getD 4 [] = U.L w4 := by rw [List.getD_eq_getElem?_getD, List.getElem?_map, hw4]; rfl
        rw [hg4] at hh
        have e0 : (w4.toList == [48]) = false := beq_lit w4 [48] false (decide_eq_false (fun e => hh ⟨h16, .inl e⟩))
        have e1 : (w4.toList == [49]) = false := beq_lit w4 [49] false (decide_eq_false (fun e => hh ⟨h16, .inr e⟩))
        clear hr2 hwsp hI hrd hR h16 hh hg4 hw4 hcells hA
        go_wp2
        refine bodyPost_ret (results_cell_tmp rfl _ _ w.heap.size 29 (cmdV z29) (0, 0) _ rfl (store_all z29 z29 HR2.out) rfl rfl (by kernel_rfl)) rfl ⟨rfl, below_all z29 hbw (Nat.le_refl _)⟩
      · have hn : ((acc.length : Int) != 16) = true := bne_iff_ne.2 (by omega)
        clear hr2 hwsp hI hrd hR h16 hh
        go_wp2
        refine bodyPost_ret (results_cell_tmp rfl _ _ w.heap.size 29 (cmdV z29) (0, 0) _ rfl (store_all z29 z29 HR2.out) rfl rfl (by kernel_rfl)) rfl ⟨rfl, below_all z29 hbw (Nat.le_refl _)⟩

set_option maxHeartbeats 8000000 in
set_option maxRecDepth 1000000 in
theorem rl_fail48 (s : ByteArray) (w : World) (hs : s.size ≤ 1000000000) (h : Q.readW (Q.splitC 32 (U.L s)) = none) (h16 : (Q.splitC 32 (U.L s)).length = 16) (h4 : (Q.splitC 32 (U.L s)).getD 4 [] = [48]) :
    Calls Tryd.prog 9 #[.string s] w fun e w' => e = .returned (.tuple #[.agg (cmdV z29), .bool false]) ∧ Below w.heap.size w w' := by
  obtain ⟨W1, hW1⟩ : ∃ W1, W1 = w.alloc (.cells #[.int .i64 0, .int .i64 0, .string ⟨#[]⟩, .int .i32 0, .string ⟨#[]⟩, .string ⟨#[]⟩, .string ⟨#[]⟩, .string ⟨#[]⟩, .string ⟨#[]⟩, .string ⟨#[]⟩, .string ⟨#[]⟩, .string ⟨#[]⟩, .bool false, .string ⟨#[]⟩, .int .i64 0, .string ⟨#[]⟩] 29) := ⟨_, rfl⟩
  have hs1 : W1.heap.size = w.heap.size + 1 := by rw [hW1]; show (w.heap.push _).size = _; simp
  have hb1 : Below w.heap.size w W1 := by rw [hW1]; exact below_alloc (Below.refl _ w) _
  have hr1 : W1.heap[w.heap.size]? = some (.cells (cmdV z29) 29 (0, 0)) := by
    rw [hW1]
    exact heap_alloc_new w _
  have HW1 := Lib.hid hW1
  have HR1 := Lib.hid hr1
  have HH := Lib.hid h
  have H16 := Lib.hid h16
  have H4 := Lib.hid h4
  clear hW1 hr1 h h16 h4
  go_enter Tryd.func9, Tryd.ntmps9
  go_wp2
  rw [← HW1.out]
  go_loopw [4, 5, 6] (fun v4 v5 v6 wx => ∃ (i at_ : Nat) (acc : List ByteArray), v6 = .int .i64 i ∧ v5 = .int .i64 at_ ∧ at_ ≤ i ∧ i ≤ s.size + 1 ∧ Kd.string.R 9 wx W1.heap.size (fun _ => True) v4 acc ∧ Below W1.heap.size W1 wx ∧ acc.length ≤ i ∧ Hid (LoopI s i at_ acc)) (fun v4 v5 v6 wx => s.size + 1 - (RowKit.intOf v6).toNat)
  case atStart => exact ⟨0, 0, [], rfl, rfl, Nat.le_refl _, Nat.zero_le _, Kd.R_nil _ _ _ _ _, Below.refl _ W1, Nat.le_refl _, Lib.hid (LoopI.start s)⟩
  case round =>
    obtain ⟨i, at_, acc, rfl, rfl, hai, his, hR, hb, hal, hI⟩ := hrel
    have hsz := hb.size
    by_cases hi : i ≤ s.size
    · by_cases hie : i = s.size
      · have HI := Lib.hid ((hie ▸ hI.out).atEnd (hie ▸ hai))
        subst hie
        have hse : ((s.size : Int) == (s.size : Int)) = true := beq_self_eq_true _
        go_wp2_with (((with_reducible refine gate_builtin (b := .append) (xs := #[.tmp 32, .tmp 37]) rfl ?_); at_builtin; refine Kd.R_append Kd.string (w0 := W1) W1.heap.size rfl (.tmp 32) (.tmp 37) 40 9 (.string ByteArray.empty) 16 rfl Tryd.underlying40 (by kernel_rfl) rfl (by decide) (by omega) u4 acc (s.extract at_ s.size) [.string (s.extract at_ s.size)] (fun _ => True) (fun _ => False) rfl rfl ?aP (fun _ hk => hk.elim) ?aF ?aO ?aB ?aS ?aL ?_; (case aP => exact rfl); (case aB => exact hb); (case aF => exact (fun _ _ => trivial)); (case aO => exact hR); (case aS => exact hsz); (case aL => omega); intro v140 w10 ho hbn hg hat; clear hg hat))
        go_roundw
        case rel => exact ⟨s.size + 1, s.size + 1, _, by first | rfl | go_num, by first | rfl | go_num, Nat.le_refl _, Nat.le_refl _, ho, hbn, by simp; omega, HI⟩
        case measure => first | (simp [RowKit.intOf]; done) | (simp [RowKit.intOf]; omega)
      · have hlt : i < s.size := by omega
        obtain ⟨b, hbe⟩ : ∃ b, (U.L s)[i]? = some b := ⟨_, List.getElem?_eq_getElem (by rw [U.L_len]; exact hlt)⟩
        have hne : ((i : Int) == (s.size : Int)) = false := beq_eq_false_iff_ne.2 (by omega)
        have hbs : s[i]'hlt = b := by
          have h1 := List.getElem?_eq_some_iff.1 hbe
          exact h1.2
        by_cases h32 : b = 32
        · have HI := Lib.hid (hI.out.space hai hlt (by rw [hbe, h32]))
          have hb32 : (((s[i]'hlt).toNat : Int) == 32) = true := by rw [hbs, h32]; rfl
          clear hbs hbe h32 hie
          go_wp2_with (((with_reducible refine gate_builtin (b := .append) (xs := #[.tmp 32, .tmp 37]) rfl ?_); at_builtin; refine Kd.R_append Kd.string (w0 := W1) W1.heap.size rfl (.tmp 32) (.tmp 37) 40 9 (.string ByteArray.empty) 16 rfl Tryd.underlying40 (by kernel_rfl) rfl (by decide) (by omega) u4 acc (s.extract at_ i) [.string (s.extract at_ i)] (fun _ => True) (fun _ => False) rfl rfl ?aP (fun _ hk => hk.elim) ?aF ?aO ?aB ?aS ?aL ?_; (case aP => exact rfl); (case aB => exact hb); (case aF => exact (fun _ _ => trivial)); (case aO => exact hR); (case aS => exact hsz); (case aL => omega); intro v140 w10 ho hbn hg hat; clear hg hat))
          go_roundw
          case rel => exact ⟨i + 1, i + 1, _, by first | rfl | go_num, by first | rfl | go_num, Nat.le_refl _, by omega, ho, hbn, by simp; omega, HI⟩
          case measure => first | (simp [RowKit.intOf]; done) | (simp [RowKit.intOf]; omega)
        · have HI := Lib.hid (hI.out.other hai hlt b hbe h32)
          have hb32 : (((s[i]'hlt).toNat : Int) == 32) = false := by rw [hbs]; exact beq_eq_false_iff_ne.2 (Pure.byte_ne b 32 h32)
          clear hbs hbe h32 hie
          go_wp2
          go_roundw
          case rel => exact ⟨i + 1, at_, acc, by first | rfl | go_num, rfl, by omega, by omega, hR, hb, by omega, HI⟩
          case measure => first | (simp [RowKit.intOf]; done) | (simp [RowKit.intOf]; omega)
    · have hie : i = s.size + 1 := by omega
      rw [show ((i : Nat) : Int) = (s.size : Int) + 1 by omega]
      subst hie
      have hwsp := hI.out.done
      obtain ⟨A4, c4, rfl⟩ := Kd.R_slice hR
      have hrd := (Kd.R_reads' hR).2.2
      have hacl : acc.length ≤ 1000000002 := by omega
      have hr2 := (hb.block w.heap.size (by omega)).trans HR1.out
      have hbw := below_then hb1 hb1.size hb
      have hdl : decide ((s.size : Int) + 1 ≤ (s.size : Int)) = false := decide_eq_false (by omega)
      have HWS := Lib.hid hwsp
      have h16 : acc.length = 16 := by have := H16.out; rw [hwsp, List.length_map] at this; exact this
      have hn : ((acc.length : Int) != 16) = false := by rw [h16]; rfl
      obtain ⟨bk, o, hA, hbk, hcells⟩ := strs_at hrd (fun e => by rw [e] at h16; cases h16)
      obtain ⟨w4, hw4⟩ : ∃ w4, acc[4]? = some w4 := ⟨_, List.getElem?_eq_getElem (by omega)⟩
      have hia := fun (j : Nat) (hj : j < 16) W => idx_row acc.length c4 j bk o A4 W hA (by omega)
      have hia4 := hia 4 (by omega)
      have hc4 := hcells 4 w4 hw4
      rw [show ((4 : Nat) : Int) = 4 from rfl] at hia4
      have hg4 : (acc.map U.L).getD 4 [] = U.L w4 := by rw [List.getD_eq_getElem?_getD, List.getElem?_map, hw4]; rfl
      have HW4 : Hid (U.L w4 = [48]) := Lib.hid (by rw [← hg4, ← hwsp]; exact H4.out)
      have HG4 := Lib.hid hg4
      have e0 : (w4.toList == [48]) = true := beq_lit w4 [48] true (decide_eq_true HW4.out)
      have HC := Lib.hid hcells
      have HIA := Lib.hid hia
      have HA16 := Lib.hid h16
      have hwz : ∀ x ∈ acc, x.size ≤ s.size := fun x hx => by
        have := splitC_le 32 (U.L s) (U.L x) (by rw [hwsp]; exact List.mem_map_of_mem hx)
        rwa [U.L_len, U.L_len] at this
      have HWZ := Lib.hid hwz
      clear hwsp hI hrd hR h16 hg4 hw4 hcells hA hia hwz
      go_wp2
      obtain ⟨V, rfl⟩ : ∃ V, V = wr := ⟨_, rfl⟩
      have hvl := blk_lt hr2
      have HR2 := Lib.hid hr2
      have HBW := Lib.hid hbw
      obtain ⟨W6, hW6⟩ : ∃ W6, W6 = (V.alloc (.cells #[.int .i64 0, .int .i64 0, .int .i64 0, .int .i64 0] 41)).alloc (.cells #[.string ⟨#[]⟩, .string ⟨#[]⟩, .string ⟨#[]⟩, .string ⟨#[]⟩, .string ⟨#[]⟩, .string ⟨#[]⟩, .string ⟨#[]⟩, .string ⟨#[]⟩, .string ⟨#[]⟩, .string ⟨#[]⟩, .string ⟨#[]⟩] 42) := ⟨_, rfl⟩
      rw [← hW6]
      have e1 : (V.alloc (.cells #[.int .i64 0, .int .i64 0, .int .i64 0, .int .i64 0] 41)).heap.size = V.heap.size + 1 := by show (V.heap.push _).size = _; simp
      have hb6 : Below V.heap.size V W6 := by rw [hW6]; exact below_alloc (below_alloc (Below.refl _ V) _) _
      have hn6 : W6.heap[V.heap.size]? = some (.cells (numA []) 41 (0, 0)) := by
        rw [hW6]
        exact (Below.heap_alloc _ _ _ (by rw [e1]; omega)).trans (heap_alloc_new V _)
      have ht6 : W6.heap[V.heap.size + 1]? = some (.cells (txtA []) 42 (0, 0)) := by
        rw [hW6, ← e1]
        exact heap_alloc_new _ _
      clear hW6 e1 hr2 hbw hb hsz hdl hia4 hc4 e0
      go_loopw [9] (fun v9 wx => ∃ (j : Nat) (ks : List Int), v9 = .int .i64 j ∧ j ≤ 4 ∧ ks.length = j ∧ wx.heap[V.heap.size]? = some (.cells (numA ks) 41 (0, 0)) ∧ wx.heap[V.heap.size + 1]? = some (.cells (txtA []) 42 (0, 0)) ∧ Below V.heap.size V wx ∧ Hid (Q.allSome (((acc.map U.L).take j).map Q.numL) = some ks)) (fun v9 wx => 4 - (RowKit.intOf v9).toNat)
      case atStart => exact ⟨0, [], rfl, Nat.zero_le _, rfl, hn6, ht6, hb6, Lib.hid rfl⟩
      case round =>
        clear hn6 ht6 hb6
        obtain ⟨j, ks, rfl, hj4, hkl, hn, ht, hb, hks⟩ := hrel
        have hsz := hb.size
        by_cases hj : j < 4
        · obtain ⟨x, hx⟩ : ∃ x, acc[j]? = some x := ⟨_, List.getElem?_eq_getElem (by rw [HA16.out]; omega)⟩
          have hi0 := HIA.out j (by omega)
          have hc0 := (hb.cell (p := ⟨bk, o + j, none⟩) hbk).trans (HC.out j x hx)
          have hxs := HWZ.out x (List.mem_of_getElem? hx)
          obtain ⟨kn, hkn⟩ := Pure.number_ev x (by omega)
          have hU := hkn kn (Nat.le_refl _)
          have hnext : ∀ a, Q.numL (U.L x) = a → Q.allSome (((acc.map U.L).take (j + 1)).map Q.numL) = a.bind fun t => some (ks ++ [t]) := fun a ha => by
            rw [List.take_add_one, List.map_append, Q.allSome_app, hks.out]
            have : (acc.map U.L)[j]? = some (U.L x) := by rw [List.getElem?_map, hx]; rfl
            rw [this]
            simp only [Option.toList_some, List.map_cons, List.map_nil, Q.allSome, ha]
            cases a <;> rfl
          obtain ⟨hset, hput⟩ := num_set ks (by omega)
          rw [hkl] at hset hput
          unfold Pure.numR at hU
          clear hkn hx
          cases hnl : Q.numL (U.L x) with
          | none =>
            rw [hnl] at hU
            have HU := Lib.hid hU
            clear hnext hnl hU hput hset
            go_wp2_with (go_at_call 16; (with_reducible refine (figureheadref25_number.calls kn x _ _ _ HU.out).mono ?_); rintro e W5 ⟨rfl, d5⟩; have b5 := d5.below; clear d5; have HR5 := Lib.hid (heap_keepsS b5 ((hb.block _ hvl).trans HR2.out)); have hb5 := below_step (below_step HBW.out hb) b5; have hrf := blk_frozen HR5.out; obtain ⟨q0, q1, q2, q3, q4, q5, q6, q7, q8, q9, q10, q11, q12, q13, q14, q15⟩ := zero_cells HR5.out)
            refine bodyPost_ret (results_cell_tmp rfl _ _ w.heap.size 29 (cmdV z29) (0, 0) _ rfl (store_all z29 z29 HR5.out) rfl rfl (by kernel_rfl)) rfl ⟨rfl, below_all z29 hb5 (Nat.le_refl _)⟩
          | some v =>
            rw [hnl] at hU
            have HU := Lib.hid hU
            have HN := Lib.hid (hnext (some v) hnl)
            have hia := fun W => idx_num V.heap.size j W hj
            clear hnext hnl hU
            go_wp2_with (go_at_call 16; (with_reducible refine (figureheadref25_number.calls kn x _ _ _ HU.out).mono ?_); rintro e W5 ⟨rfl, d5⟩; have b5 := d5.below; clear d5; have hn5 := heap_keepsS b5 hn; have ht5 := heap_keepsS b5 ht; have hb5 := below_step hb b5; have hnf := blk_frozen hn5 j; have hnc := (blk_cell hn5 j).trans hset)
            go_roundw
            case rel =>
              refine ⟨j + 1, ks ++ [v], by go_num, by omega, by simp [hkl], blk_put2 hn5 j _ (hput v), blk_far ht5 (by show V.heap.size + 1 ≠ V.heap.size; omega) _, below_set hb5 (Nat.le_refl _), Lib.hid ?_⟩
              rw [HN.out]
              rfl
            case measure => first | (simp [RowKit.intOf]; done) | (simp [RowKit.intOf]; omega)
        · have hje : j = 4 := by omega
          rw [show ((j : Nat) : Int) = 4 by omega]
          subst hje
          clear hsz hj4 hj
          go_wp2
          go_loopw [12] (fun v12 wx => ∃ (j : Nat) (ts : List ByteArray), v12 = .int .i64 j ∧ j ≤ 11 ∧ ts.length = j ∧ wx.heap[V.heap.size]? = some (.cells (numA ks) 41 (0, 0)) ∧ wx.heap[V.heap.size + 1]? = some (.cells (txtA ts) 42 (0, 0)) ∧ Below V.heap.size V wx ∧ Hid (Q.allSome ((((acc.map U.L).drop 5).take j).map Q.bytesX) = some (ts.map U.L))) (fun v12 wx => 11 - (RowKit.intOf v12).toNat)
          case atStart => exact ⟨0, [], rfl, Nat.zero_le _, rfl, hn, ht, hb, Lib.hid rfl⟩
          case round =>
            clear hn ht hb
            obtain ⟨j, ts, rfl, hj11, htl, hn, ht, hb, hts⟩ := hrel
            have hsz := hb.size
            by_cases hj : j < 11
            · obtain ⟨x, hx⟩ : ∃ x, acc[5 + j]? = some x := ⟨_, List.getElem?_eq_getElem (by rw [HA16.out]; omega)⟩
              have hi0 := HIA.out (5 + j) (by omega)
              rw [show ((5 + j : Nat) : Int) = 5 + (j : Int) by omega] at hi0
              have hc0 := (hb.cell (p := ⟨bk, o + (5 + j), none⟩) hbk).trans (HC.out (5 + j) x hx)
              have hxs := HWZ.out x (List.mem_of_getElem? hx)
              obtain ⟨kn, hkn⟩ := Pure.bytes25_ev x (by omega)
              have hU := hkn kn (Nat.le_refl _)
              have hnext : ∀ a, Q.bytesX (U.L x) = a → Q.allSome ((((acc.map U.L).drop 5).take (j + 1)).map Q.bytesX) = a.bind fun t => some (ts.map U.L ++ [t]) := fun a ha => by
                rw [List.take_add_one, List.map_append, Q.allSome_app, hts.out]
                have : ((acc.map U.L).drop 5)[j]? = some (U.L x) := by rw [List.getElem?_drop, List.getElem?_map, hx]; rfl
                rw [this]
                simp only [Option.toList_some, List.map_cons, List.map_nil, Q.allSome, ha]
                cases a <;> rfl
              obtain ⟨hset, hput⟩ := txt_set ts (by omega)
              rw [htl] at hset hput
              unfold Pure.bytesR at hU
              clear hkn hx
              cases hnl : Q.bytesX (U.L x) with
              | none =>
                rw [hnl] at hU
                have HU := Lib.hid hU
                clear hnext hnl hU hput hset
                go_wp2_with (go_at_call 17; (with_reducible refine (figureheadref25_bytes.calls kn x _ _ _ HU.out).mono ?_); rintro e W5 ⟨rfl, b5⟩; have HR5 := Lib.hid (heap_keepsS b5 ((hb.block _ hvl).trans HR2.out)); have hb5 := below_step (below_step HBW.out hb) b5; have hrf := blk_frozen HR5.out; obtain ⟨q0, q1, q2, q3, q4, q5, q6, q7, q8, q9, q10, q11, q12, q13, q14, q15⟩ := zero_cells HR5.out)
                refine bodyPost_ret (results_cell_tmp rfl _ _ w.heap.size 29 (cmdV z29) (0, 0) _ rfl (store_all z29 z29 HR5.out) rfl rfl (by kernel_rfl)) rfl ⟨rfl, below_all z29 hb5 (Nat.le_refl _)⟩
              | some v =>
                rw [hnl] at hU
                have HU := Lib.hid hU
                have HN := Lib.hid (hnext (some v) hnl)
                have hia := fun W => idx_txt V.heap.size j W hj
                clear hnext hnl hU
                go_wp2_with (go_at_call 17; (with_reducible refine (figureheadref25_bytes.calls kn x _ _ _ HU.out).mono ?_); rintro e W5 ⟨rfl, b5⟩; have hn5 := heap_keepsS b5 hn; have ht5 := heap_keepsS b5 ht; have hb5 := below_step hb b5; have hnf := blk_frozen ht5 j; have hnc := (blk_cell ht5 j).trans hset)
                go_roundw
                case rel =>
                  refine ⟨j + 1, ts ++ [mkB v], by go_num, by omega, by simp [htl], blk_far hn5 (by show V.heap.size ≠ V.heap.size + 1; omega) _, blk_put2 ht5 j _ (hput (mkB v)), below_set hb5 (by show V.heap.size ≤ V.heap.size + 1; omega), Lib.hid ?_⟩
                  rw [HN.out, List.map_append]
                  simp [mkB, U.L_mk]
                case measure => first | (simp [RowKit.intOf]; done) | (simp [RowKit.intOf]; omega)
            · have hje : j = 11 := by omega
              rw [show ((j : Nat) : Int) = 11 by omega]
              subst hje
              have htt : Q.allSome (((acc.map U.L).drop 5).map Q.bytesX) = some (ts.map U.L) := by
                have := hts.out
                rwa [List.take_of_length_le (by rw [List.length_drop, List.length_map, HA16.out]; omega)] at this
              have hrr := (Q.read_nums (l := acc.map U.L) (by rw [List.length_map]; exact HA16.out) (by rw [← HWS.out]; exact .inl H4.out) hks.out htt).1
              have hi2 := fun W => idx_num V.heap.size 2 W (by omega)
              rw [show ((2 : Nat) : Int) = 2 from rfl] at hi2
              obtain ⟨zz, hzz⟩ : ∃ zz, zz = ks.getD 2 0 := ⟨_, rfl⟩
              have hc2 : wr.cell? ⟨V.heap.size, 2, none⟩ = some (.int .i64 zz) := (blk_cell hn 2).trans (by rw [hzz]; rfl)
              rw [← hzz] at hrr
              have hh := HH.out
              rw [HWS.out, hrr] at hh
              have HZ := Lib.hid hzz
              clear hzz hrr htt hsz hj11 hj
              have HR5 := Lib.hid ((hb.block _ hvl).trans HR2.out)
              have hb5 := below_step HBW.out hb
              have hrf := blk_frozen HR5.out
              obtain ⟨q0, q1, q2, q3, q4, q5, q6, q7, q8, q9, q10, q11, q12, q13, q14, q15⟩ := zero_cells HR5.out
              by_cases hlo : zz < -2147483648
              · have e0 : decide (zz < -2147483648) = true := decide_eq_true hlo
                clear hh hlo
                go_wp2
                refine bodyPost_ret (results_cell_tmp rfl _ _ w.heap.size 29 (cmdV z29) (0, 0) _ rfl (store_all z29 z29 HR5.out) rfl rfl (by kernel_rfl)) rfl ⟨rfl, below_all z29 hb5 (Nat.le_refl _)⟩
              · by_cases hhi : 2147483648 ≤ zz
                · have e0 : decide (zz < -2147483648) = false := decide_eq_false hlo
                  have e1 : decide (2147483648 ≤ zz) = true := decide_eq_true hhi
                  clear hh hlo hhi
                  go_wp2
                  refine bodyPost_ret (results_cell_tmp rfl _ _ w.heap.size 29 (cmdV z29) (0, 0) _ rfl (store_all z29 z29 HR5.out) rfl rfl (by kernel_rfl)) rfl ⟨rfl, below_all z29 hb5 (Nat.le_refl _)⟩
                · rw [if_pos ⟨by omega, by omega⟩] at hh
                  cases hh

set_option maxHeartbeats 8000000 in
set_option maxRecDepth 1000000 in
theorem rl_fail49 (s : ByteArray) (w : World) (hs : s.size ≤ 1000000000) (h : Q.readW (Q.splitC 32 (U.L s)) = none) (h16 : (Q.splitC 32 (U.L s)).length = 16) (h4 : (Q.splitC 32 (U.L s)).getD 4 [] = [49]) :
    Calls Tryd.prog 9 #[.string s] w fun e w' => e = .returned (.tuple #[.agg (cmdV z29), .bool false]) ∧ Below w.heap.size w w' := by
  obtain ⟨W1, hW1⟩ : ∃ W1, W1 = w.alloc (.cells #[.int .i64 0, .int .i64 0, .string ⟨#[]⟩, .int .i32 0, .string ⟨#[]⟩, .string ⟨#[]⟩, .string ⟨#[]⟩, .string ⟨#[]⟩, .string ⟨#[]⟩, .string ⟨#[]⟩, .string ⟨#[]⟩, .string ⟨#[]⟩, .bool false, .string ⟨#[]⟩, .int .i64 0, .string ⟨#[]⟩] 29) := ⟨_, rfl⟩
  have hs1 : W1.heap.size = w.heap.size + 1 := by rw [hW1]; show (w.heap.push _).size = _; simp
  have hb1 : Below w.heap.size w W1 := by rw [hW1]; exact below_alloc (Below.refl _ w) _
  have hr1 : W1.heap[w.heap.size]? = some (.cells (cmdV z29) 29 (0, 0)) := by
    rw [hW1]
    exact heap_alloc_new w _
  have HW1 := Lib.hid hW1
  have HR1 := Lib.hid hr1
  have HH := Lib.hid h
  have H16 := Lib.hid h16
  have H4 := Lib.hid h4
  clear hW1 hr1 h h16 h4
  go_enter Tryd.func9, Tryd.ntmps9
  go_wp2
  rw [← HW1.out]
  go_loopw [4, 5, 6] (fun v4 v5 v6 wx => ∃ (i at_ : Nat) (acc : List ByteArray), v6 = .int .i64 i ∧ v5 = .int .i64 at_ ∧ at_ ≤ i ∧ i ≤ s.size + 1 ∧ Kd.string.R 9 wx W1.heap.size (fun _ => True) v4 acc ∧ Below W1.heap.size W1 wx ∧ acc.length ≤ i ∧ Hid (LoopI s i at_ acc)) (fun v4 v5 v6 wx => s.size + 1 - (RowKit.intOf v6).toNat)
  case atStart => exact ⟨0, 0, [], rfl, rfl, Nat.le_refl _, Nat.zero_le _, Kd.R_nil _ _ _ _ _, Below.refl _ W1, Nat.le_refl _, Lib.hid (LoopI.start s)⟩
  case round =>
    obtain ⟨i, at_, acc, rfl, rfl, hai, his, hR, hb, hal, hI⟩ := hrel
    have hsz := hb.size
    by_cases hi : i ≤ s.size
    · by_cases hie : i = s.size
      · have HI := Lib.hid ((hie ▸ hI.out).atEnd (hie ▸ hai))
        subst hie
        have hse : ((s.size : Int) == (s.size : Int)) = true := beq_self_eq_true _
        go_wp2_with (((with_reducible refine gate_builtin (b := .append) (xs := #[.tmp 32, .tmp 37]) rfl ?_); at_builtin; refine Kd.R_append Kd.string (w0 := W1) W1.heap.size rfl (.tmp 32) (.tmp 37) 40 9 (.string ByteArray.empty) 16 rfl Tryd.underlying40 (by kernel_rfl) rfl (by decide) (by omega) u4 acc (s.extract at_ s.size) [.string (s.extract at_ s.size)] (fun _ => True) (fun _ => False) rfl rfl ?aP (fun _ hk => hk.elim) ?aF ?aO ?aB ?aS ?aL ?_; (case aP => exact rfl); (case aB => exact hb); (case aF => exact (fun _ _ => trivial)); (case aO => exact hR); (case aS => exact hsz); (case aL => omega); intro v140 w10 ho hbn hg hat; clear hg hat))
        go_roundw
        case rel => exact ⟨s.size + 1, s.size + 1, _, by first | rfl | go_num, by first | rfl | go_num, Nat.le_refl _, Nat.le_refl _, ho, hbn, by simp; omega, HI⟩
        case measure => first | (simp [RowKit.intOf]; done) | (simp [RowKit.intOf]; omega)
      · have hlt : i < s.size := by omega
        obtain ⟨b, hbe⟩ : ∃ b, (U.L s)[i]? = some b := ⟨_, List.getElem?_eq_getElem (by rw [U.L_len]; exact hlt)⟩
        have hne : ((i : Int) == (s.size : Int)) = false := beq_eq_false_iff_ne.2 (by omega)
        have hbs : s[i]'hlt = b := by
          have h1 := List.getElem?_eq_some_iff.1 hbe
          exact h1.2
        by_cases h32 : b = 32
        · have HI := Lib.hid (hI.out.space hai hlt (by rw [hbe, h32]))
          have hb32 : (((s[i]'hlt).toNat : Int) == 32) = true := by rw [hbs, h32]; rfl
          clear hbs hbe h32 hie
          go_wp2_with (((with_reducible refine gate_builtin (b := .append) (xs := #[.tmp 32, .tmp 37]) rfl ?_); at_builtin; refine Kd.R_append Kd.string (w0 := W1) W1.heap.size rfl (.tmp 32) (.tmp 37) 40 9 (.string ByteArray.empty) 16 rfl Tryd.underlying40 (by kernel_rfl) rfl (by decide) (by omega) u4 acc (s.extract at_ i) [.string (s.extract at_ i)] (fun _ => True) (fun _ => False) rfl rfl ?aP (fun _ hk => hk.elim) ?aF ?aO ?aB ?aS ?aL ?_; (case aP => exact rfl); (case aB => exact hb); (case aF => exact (fun _ _ => trivial)); (case aO => exact hR); (case aS => exact hsz); (case aL => omega); intro v140 w10 ho hbn hg hat; clear hg hat))
          go_roundw
          case rel => exact ⟨i + 1, i + 1, _, by first | rfl | go_num, by first | rfl | go_num, Nat.le_refl _, by omega, ho, hbn, by simp; omega, HI⟩
          case measure => first | (simp [RowKit.intOf]; done) | (simp [RowKit.intOf]; omega)
        · have HI := Lib.hid (hI.out.other hai hlt b hbe h32)
          have hb32 : (((s[i]'hlt).toNat : Int) == 32) = false := by rw [hbs]; exact beq_eq_false_iff_ne.2 (Pure.byte_ne b 32 h32)
          clear hbs hbe h32 hie
          go_wp2
          go_roundw
          case rel => exact ⟨i + 1, at_, acc, by first | rfl | go_num, rfl, by omega, by omega, hR, hb, by omega, HI⟩
          case measure => first | (simp [RowKit.intOf]; done) | (simp [RowKit.intOf]; omega)
    · have hie : i = s.size + 1 := by omega
      rw [show ((i : Nat) : Int) = (s.size : Int) + 1 by omega]
      subst hie
      have hwsp := hI.out.done
      obtain ⟨A4, c4, rfl⟩ := Kd.R_slice hR
      have hrd := (Kd.R_reads' hR).2.2
      have hacl : acc.length ≤ 1000000002 := by omega
      have hr2 := (hb.block w.heap.size (by omega)).trans HR1.out
      have hbw := below_then hb1 hb1.size hb
      have hdl : decide ((s.size : Int) + 1 ≤ (s.size : Int)) = false := decide_eq_false (by omega)
      have HWS := Lib.hid hwsp
      have h16 : acc.length = 16 := by have := H16.out; rw [hwsp, List.length_map] at this; exact this
      have hn : ((acc.length : Int) != 16) = false := by rw [h16]; rfl
      obtain ⟨bk, o, hA, hbk, hcells⟩ := strs_at hrd (fun e => by rw [e] at h16; cases h16)
      obtain ⟨w4, hw4⟩ : ∃ w4, acc[4]? = some w4 := ⟨_, List.getElem?_eq_getElem (by omega)⟩
      have hia := fun (j : Nat) (hj : j < 16) W => idx_row acc.length c4 j bk o A4 W hA (by omega)
      have hia4 := hia 4 (by omega)
      have hc4 := hcells 4 w4 hw4
      rw [show ((4 : Nat) : Int) = 4 from rfl] at hia4
      have hg4 : (acc.map U.L).getD 4 [] = U.L w4 := by rw [List.getD_eq_getElem?_getD, List.getElem?_map, hw4]; rfl
      have HW4 : Hid (U.L w4 = [49]) := Lib.hid (by rw [← hg4, ← hwsp]; exact H4.out)
      have HG4 := Lib.hid hg4
      have e0 : (w4.toList == [48]) = false := beq_lit w4 [48] false (decide_eq_false (by rw [HW4.out]; decide))
      have eb1 : (w4.toList == [49]) = true := beq_lit w4 [49] true (decide_eq_true HW4.out)
      have HC := Lib.hid hcells
      have HIA := Lib.hid hia
      have HA16 := Lib.hid h16
      have hwz : ∀ x ∈ acc, x.size ≤ s.size := fun x hx => by
        have := splitC_le 32 (U.L s) (U.L x) (by rw [hwsp]; exact List.mem_map_of_mem hx)
        rwa [U.L_len, U.L_len] at this
      have HWZ := Lib.hid hwz
      clear hwsp hI hrd hR h16 hg4 hw4 hcells hA hia hwz
      go_wp2
      obtain ⟨V, rfl⟩ : ∃ V, V = wr := ⟨_, rfl⟩
      have hvl := blk_lt hr2
      have HR2 := Lib.hid hr2
      have HBW := Lib.hid hbw
      obtain ⟨W6, hW6⟩ : ∃ W6, W6 = (V.alloc (.cells #[.int .i64 0, .int .i64 0, .int .i64 0, .int .i64 0] 41)).alloc (.cells #[.string ⟨#[]⟩, .string ⟨#[]⟩, .string ⟨#[]⟩, .string ⟨#[]⟩, .string ⟨#[]⟩, .string ⟨#[]⟩, .string ⟨#[]⟩, .string ⟨#[]⟩, .string ⟨#[]⟩, .string ⟨#[]⟩, .string ⟨#[]⟩] 42) := ⟨_, rfl⟩
      rw [← hW6]
      have e1 : (V.alloc (.cells #[.int .i64 0, .int .i64 0, .int .i64 0, .int .i64 0] 41)).heap.size = V.heap.size + 1 := by show (V.heap.push _).size = _; simp
      have hb6 : Below V.heap.size V W6 := by rw [hW6]; exact below_alloc (below_alloc (Below.refl _ V) _) _
      have hn6 : W6.heap[V.heap.size]? = some (.cells (numA []) 41 (0, 0)) := by
        rw [hW6]
        exact (Below.heap_alloc _ _ _ (by rw [e1]; omega)).trans (heap_alloc_new V _)
      have ht6 : W6.heap[V.heap.size + 1]? = some (.cells (txtA []) 42 (0, 0)) := by
        rw [hW6, ← e1]
        exact heap_alloc_new _ _
      clear hW6 e1 hr2 hbw hb hsz hdl hia4 hc4 e0 eb1
      go_loopw [9] (fun v9 wx => ∃ (j : Nat) (ks : List Int), v9 = .int .i64 j ∧ j ≤ 4 ∧ ks.length = j ∧ wx.heap[V.heap.size]? = some (.cells (numA ks) 41 (0, 0)) ∧ wx.heap[V.heap.size + 1]? = some (.cells (txtA []) 42 (0, 0)) ∧ Below V.heap.size V wx ∧ Hid (Q.allSome (((acc.map U.L).take j).map Q.numL) = some ks)) (fun v9 wx => 4 - (RowKit.intOf v9).toNat)
      case atStart => exact ⟨0, [], rfl, Nat.zero_le _, rfl, hn6, ht6, hb6, Lib.hid rfl⟩
      case round =>
        clear hn6 ht6 hb6
        obtain ⟨j, ks, rfl, hj4, hkl, hn, ht, hb, hks⟩ := hrel
        have hsz := hb.size
        by_cases hj : j < 4
        · obtain ⟨x, hx⟩ : ∃ x, acc[j]? = some x := ⟨_, List.getElem?_eq_getElem (by rw [HA16.out]; omega)⟩
          have hi0 := HIA.out j (by omega)
          have hc0 := (hb.cell (p := ⟨bk, o + j, none⟩) hbk).trans (HC.out j x hx)
          have hxs := HWZ.out x (List.mem_of_getElem? hx)
          obtain ⟨kn, hkn⟩ := Pure.number_ev x (by omega)
          have hU := hkn kn (Nat.le_refl _)
          have hnext : ∀ a, Q.numL (U.L x) = a → Q.allSome (((acc.map U.L).take (j + 1)).map Q.numL) = a.bind fun t => some (ks ++ [t]) := fun a ha => by
            rw [List.take_add_one, List.map_append, Q.allSome_app, hks.out]
            have : (acc.map U.L)[j]? = some (U.L x) := by rw [List.getElem?_map, hx]; rfl
            rw [this]
            simp only [Option.toList_some, List.map_cons, List.map_nil, Q.allSome, ha]
            cases a <;> rfl
          obtain ⟨hset, hput⟩ := num_set ks (by omega)
          rw [hkl] at hset hput
          unfold Pure.numR at hU
          clear hkn hx
          cases hnl : Q.numL (U.L x) with
          | none =>
            rw [hnl] at hU
            have HU := Lib.hid hU
            clear hnext hnl hU hput hset
            go_wp2_with (go_at_call 16; (with_reducible refine (figureheadref25_number.calls kn x _ _ _ HU.out).mono ?_); rintro e W5 ⟨rfl, d5⟩; have b5 := d5.below; clear d5; have HR5 := Lib.hid (heap_keepsS b5 ((hb.block _ hvl).trans HR2.out)); have hb5 := below_step (below_step HBW.out hb) b5; have hrf := blk_frozen HR5.out; obtain ⟨q0, q1, q2, q3, q4, q5, q6, q7, q8, q9, q10, q11, q12, q13, q14, q15⟩ := zero_cells HR5.out)
            refine bodyPost_ret (results_cell_tmp rfl _ _ w.heap.size 29 (cmdV z29) (0, 0) _ rfl (store_all z29 z29 HR5.out) rfl rfl (by kernel_rfl)) rfl ⟨rfl, below_all z29 hb5 (Nat.le_refl _)⟩
          | some v =>
            rw [hnl] at hU
            have HU := Lib.hid hU
            have HN := Lib.hid (hnext (some v) hnl)
            have hia := fun W => idx_num V.heap.size j W hj
            clear hnext hnl hU
            go_wp2_with (go_at_call 16; (with_reducible refine (figureheadref25_number.calls kn x _ _ _ HU.out).mono ?_); rintro e W5 ⟨rfl, d5⟩; have b5 := d5.below; clear d5; have hn5 := heap_keepsS b5 hn; have ht5 := heap_keepsS b5 ht; have hb5 := below_step hb b5; have hnf := blk_frozen hn5 j; have hnc := (blk_cell hn5 j).trans hset)
            go_roundw
            case rel =>
              refine ⟨j + 1, ks ++ [v], by go_num, by omega, by simp [hkl], blk_put2 hn5 j _ (hput v), blk_far ht5 (by show V.heap.size + 1 ≠ V.heap.size; omega) _, below_set hb5 (Nat.le_refl _), Lib.hid ?_⟩
              rw [HN.out]
              rfl
            case measure => first | (simp [RowKit.intOf]; done) | (simp [RowKit.intOf]; omega)
        · have hje : j = 4 := by omega
          rw [show ((j : Nat) : Int) = 4 by omega]
          subst hje
          clear hsz hj4 hj
          go_wp2
          go_loopw [12] (fun v12 wx => ∃ (j : Nat) (ts : List ByteArray), v12 = .int .i64 j ∧ j ≤ 11 ∧ ts.length = j ∧ wx.heap[V.heap.size]? = some (.cells (numA ks) 41 (0, 0)) ∧ wx.heap[V.heap.size + 1]? = some (.cells (txtA ts) 42 (0, 0)) ∧ Below V.heap.size V wx ∧ Hid (Q.allSome ((((acc.map U.L).drop 5).take j).map Q.bytesX) = some (ts.map U.L))) (fun v12 wx => 11 - (RowKit.intOf v12).toNat)
          case atStart => exact ⟨0, [], rfl, Nat.zero_le _, rfl, hn, ht, hb, Lib.hid rfl⟩
          case round =>
            clear hn ht hb
            obtain ⟨j, ts, rfl, hj11, htl, hn, ht, hb, hts⟩ := hrel
            have hsz := hb.size
            by_cases hj : j < 11
            · obtain ⟨x, hx⟩ : ∃ x, acc[5 + j]? = some x := ⟨_, List.getElem?_eq_getElem (by rw [HA16.out]; omega)⟩
              have hi0 := HIA.out (5 + j) (by omega)
              rw [show ((5 + j : Nat) : Int) = 5 + (j : Int) by omega] at hi0
              have hc0 := (hb.cell (p := ⟨bk, o + (5 + j), none⟩) hbk).trans (HC.out (5 + j) x hx)
              have hxs := HWZ.out x (List.mem_of_getElem? hx)
              obtain ⟨kn, hkn⟩ := Pure.bytes25_ev x (by omega)
              have hU := hkn kn (Nat.le_refl _)
              have hnext : ∀ a, Q.bytesX (U.L x) = a → Q.allSome ((((acc.map U.L).drop 5).take (j + 1)).map Q.bytesX) = a.bind fun t => some (ts.map U.L ++ [t]) := fun a ha => by
                rw [List.take_add_one, List.map_append, Q.allSome_app, hts.out]
                have : ((acc.map U.L).drop 5)[j]? = some (U.L x) := by rw [List.getElem?_drop, List.getElem?_map, hx]; rfl
                rw [this]
                simp only [Option.toList_some, List.map_cons, List.map_nil, Q.allSome, ha]
                cases a <;> rfl
              obtain ⟨hset, hput⟩ := txt_set ts (by omega)
              rw [htl] at hset hput
              unfold Pure.bytesR at hU
              clear hkn hx
              cases hnl : Q.bytesX (U.L x) with
              | none =>
                rw [hnl] at hU
                have HU := Lib.hid hU
                clear hnext hnl hU hput hset
                go_wp2_with (go_at_call 17; (with_reducible refine (figureheadref25_bytes.calls kn x _ _ _ HU.out).mono ?_); rintro e W5 ⟨rfl, b5⟩; have HR5 := Lib.hid (heap_keepsS b5 ((hb.block _ hvl).trans HR2.out)); have hb5 := below_step (below_step HBW.out hb) b5; have hrf := blk_frozen HR5.out; obtain ⟨q0, q1, q2, q3, q4, q5, q6, q7, q8, q9, q10, q11, q12, q13, q14, q15⟩ := zero_cells HR5.out)
                refine bodyPost_ret (results_cell_tmp rfl _ _ w.heap.size 29 (cmdV z29) (0, 0) _ rfl (store_all z29 z29 HR5.out) rfl rfl (by kernel_rfl)) rfl ⟨rfl, below_all z29 hb5 (Nat.le_refl _)⟩
              | some v =>
                rw [hnl] at hU
                have HU := Lib.hid hU
                have HN := Lib.hid (hnext (some v) hnl)
                have hia := fun W => idx_txt V.heap.size j W hj
                clear hnext hnl hU
                go_wp2_with (go_at_call 17; (with_reducible refine (figureheadref25_bytes.calls kn x _ _ _ HU.out).mono ?_); rintro e W5 ⟨rfl, b5⟩; have hn5 := heap_keepsS b5 hn; have ht5 := heap_keepsS b5 ht; have hb5 := below_step hb b5; have hnf := blk_frozen ht5 j; have hnc := (blk_cell ht5 j).trans hset)
                go_roundw
                case rel =>
                  refine ⟨j + 1, ts ++ [mkB v], by go_num, by omega, by simp [htl], blk_far hn5 (by show V.heap.size ≠ V.heap.size + 1; omega) _, blk_put2 ht5 j _ (hput (mkB v)), below_set hb5 (by show V.heap.size ≤ V.heap.size + 1; omega), Lib.hid ?_⟩
                  rw [HN.out, List.map_append]
                  simp [mkB, U.L_mk]
                case measure => first | (simp [RowKit.intOf]; done) | (simp [RowKit.intOf]; omega)
            · have hje : j = 11 := by omega
              rw [show ((j : Nat) : Int) = 11 by omega]
              subst hje
              have htt : Q.allSome (((acc.map U.L).drop 5).map Q.bytesX) = some (ts.map U.L) := by
                have := hts.out
                rwa [List.take_of_length_le (by rw [List.length_drop, List.length_map, HA16.out]; omega)] at this
              have hrr := (Q.read_nums (l := acc.map U.L) (by rw [List.length_map]; exact HA16.out) (by rw [← HWS.out]; exact .inr H4.out) hks.out htt).1
              have hi2 := fun W => idx_num V.heap.size 2 W (by omega)
              rw [show ((2 : Nat) : Int) = 2 from rfl] at hi2
              obtain ⟨zz, hzz⟩ : ∃ zz, zz = ks.getD 2 0 := ⟨_, rfl⟩
              have hc2 : wr.cell? ⟨V.heap.size, 2, none⟩ = some (.int .i64 zz) := (blk_cell hn 2).trans (by rw [hzz]; rfl)
              rw [← hzz] at hrr
              have hh := HH.out
              rw [HWS.out, hrr] at hh
              have HZ := Lib.hid hzz
              clear hzz hrr htt hsz hj11 hj
              have HR5 := Lib.hid ((hb.block _ hvl).trans HR2.out)
              have hb5 := below_step HBW.out hb
              have hrf := blk_frozen HR5.out
              obtain ⟨q0, q1, q2, q3, q4, q5, q6, q7, q8, q9, q10, q11, q12, q13, q14, q15⟩ := zero_cells HR5.out
              by_cases hlo : zz < -2147483648
              · have e0 : decide (zz < -2147483648) = true := decide_eq_true hlo
                clear hh hlo
                go_wp2
                refine bodyPost_ret (results_cell_tmp rfl _ _ w.heap.size 29 (cmdV z29) (0, 0) _ rfl (store_all z29 z29 HR5.out) rfl rfl (by kernel_rfl)) rfl ⟨rfl, below_all z29 hb5 (Nat.le_refl _)⟩
              · by_cases hhi : 2147483648 ≤ zz
                · have e0 : decide (zz < -2147483648) = false := decide_eq_false hlo
                  have e1 : decide (2147483648 ≤ zz) = true := decide_eq_true hhi
                  clear hh hlo hhi
                  go_wp2
                  refine bodyPost_ret (results_cell_tmp rfl _ _ w.heap.size 29 (cmdV z29) (0, 0) _ rfl (store_all z29 z29 HR5.out) rfl rfl (by kernel_rfl)) rfl ⟨rfl, below_all z29 hb5 (Nat.le_refl _)⟩
                · rw [if_pos ⟨by omega, by omega⟩] at hh
                  cases hh

set_option maxHeartbeats 8000000 in
set_option maxRecDepth 1000000 in
theorem rl_ok48 (s : ByteArray) (w : World) (hs : s.size ≤ 1000000000) (cm : Q.Cm) (h : Q.readW (Q.splitC 32 (U.L s)) = some cm) (h16 : (Q.splitC 32 (U.L s)).length = 16) (h4 : (Q.splitC 32 (U.L s)).getD 4 [] = [48]) :
    Calls Tryd.prog 9 #[.string s] w fun e w' => e = .returned (.tuple #[.agg (cmdV (ofCm cm)), .bool true]) ∧ Below w.heap.size w w' := by
  obtain ⟨W1, hW1⟩ : ∃ W1, W1 = w.alloc (.cells #[.int .i64 0, .int .i64 0, .string ⟨#[]⟩, .int .i32 0, .string ⟨#[]⟩, .string ⟨#[]⟩, .string ⟨#[]⟩, .string ⟨#[]⟩, .string ⟨#[]⟩, .string ⟨#[]⟩, .string ⟨#[]⟩, .string ⟨#[]⟩, .bool false, .string ⟨#[]⟩, .int .i64 0, .string ⟨#[]⟩] 29) := ⟨_, rfl⟩
  have hs1 : W1.heap.size = w.heap.size + 1 := by rw [hW1]; show (w.heap.push _).size = _; simp
  have hb1 : Below w.heap.size w W1 := by rw [hW1]; exact below_alloc (Below.refl _ w) _
  have hr1 : W1.heap[w.heap.size]? = some (.cells (cmdV z29) 29 (0, 0)) := by
    rw [hW1]
    exact heap_alloc_new w _
  have HW1 := Lib.hid hW1
  have HR1 := Lib.hid hr1
  have HH := Lib.hid h
  have H16 := Lib.hid h16
  have H4 := Lib.hid h4
  clear hW1 hr1 h h16 h4
  go_enter Tryd.func9, Tryd.ntmps9
  go_wp2
  rw [← HW1.out]
  go_loopw [4, 5, 6] (fun v4 v5 v6 wx => ∃ (i at_ : Nat) (acc : List ByteArray), v6 = .int .i64 i ∧ v5 = .int .i64 at_ ∧ at_ ≤ i ∧ i ≤ s.size + 1 ∧ Kd.string.R 9 wx W1.heap.size (fun _ => True) v4 acc ∧ Below W1.heap.size W1 wx ∧ acc.length ≤ i ∧ Hid (LoopI s i at_ acc)) (fun v4 v5 v6 wx => s.size + 1 - (RowKit.intOf v6).toNat)
  case atStart => exact ⟨0, 0, [], rfl, rfl, Nat.le_refl _, Nat.zero_le _, Kd.R_nil _ _ _ _ _, Below.refl _ W1, Nat.le_refl _, Lib.hid (LoopI.start s)⟩
  case round =>
    obtain ⟨i, at_, acc, rfl, rfl, hai, his, hR, hb, hal, hI⟩ := hrel
    have hsz := hb.size
    by_cases hi : i ≤ s.size
    · by_cases hie : i = s.size
      · have HI := Lib.hid ((hie ▸ hI.out).atEnd (hie ▸ hai))
        subst hie
        have hse : ((s.size : Int) == (s.size : Int)) = true := beq_self_eq_true _
        go_wp2_with (((with_reducible refine gate_builtin (b := .append) (xs := #[.tmp 32, .tmp 37]) rfl ?_); at_builtin; refine Kd.R_append Kd.string (w0 := W1) W1.heap.size rfl (.tmp 32) (.tmp 37) 40 9 (.string ByteArray.empty) 16 rfl Tryd.underlying40 (by kernel_rfl) rfl (by decide) (by omega) u4 acc (s.extract at_ s.size) [.string (s.extract at_ s.size)] (fun _ => True) (fun _ => False) rfl rfl ?aP (fun _ hk => hk.elim) ?aF ?aO ?aB ?aS ?aL ?_; (case aP => exact rfl); (case aB => exact hb); (case aF => exact (fun _ _ => trivial)); (case aO => exact hR); (case aS => exact hsz); (case aL => omega); intro v140 w10 ho hbn hg hat; clear hg hat))
        go_roundw
        case rel => exact ⟨s.size + 1, s.size + 1, _, by first | rfl | go_num, by first | rfl | go_num, Nat.le_refl _, Nat.le_refl _, ho, hbn, by simp; omega, HI⟩
        case measure => first | (simp [RowKit.intOf]; done) | (simp [RowKit.intOf]; omega)
      · have hlt : i < s.size := by omega
        obtain ⟨b, hbe⟩ : ∃ b, (U.L s)[i]? = some b := ⟨_, List.getElem?_eq_getElem (by rw [U.L_len]; exact hlt)⟩
        have hne : ((i : Int) == (s.size : Int)) = false := beq_eq_false_iff_ne.2 (by omega)
        have hbs : s[i]'hlt = b := by
          have h1 := List.getElem?_eq_some_iff.1 hbe
          exact h1.2
        by_cases h32 : b = 32
        · have HI := Lib.hid (hI.out.space hai hlt (by rw [hbe, h32]))
          have hb32 : (((s[i]'hlt).toNat : Int) == 32) = true := by rw [hbs, h32]; rfl
          clear hbs hbe h32 hie
          go_wp2_with (((with_reducible refine gate_builtin (b := .append) (xs := #[.tmp 32, .tmp 37]) rfl ?_); at_builtin; refine Kd.R_append Kd.string (w0 := W1) W1.heap.size rfl (.tmp 32) (.tmp 37) 40 9 (.string ByteArray.empty) 16 rfl Tryd.underlying40 (by kernel_rfl) rfl (by decide) (by omega) u4 acc (s.extract at_ i) [.string (s.extract at_ i)] (fun _ => True) (fun _ => False) rfl rfl ?aP (fun _ hk => hk.elim) ?aF ?aO ?aB ?aS ?aL ?_; (case aP => exact rfl); (case aB => exact hb); (case aF => exact (fun _ _ => trivial)); (case aO => exact hR); (case aS => exact hsz); (case aL => omega); intro v140 w10 ho hbn hg hat; clear hg hat))
          go_roundw
          case rel => exact ⟨i + 1, i + 1, _, by first | rfl | go_num, by first | rfl | go_num, Nat.le_refl _, by omega, ho, hbn, by simp; omega, HI⟩
          case measure => first | (simp [RowKit.intOf]; done) | (simp [RowKit.intOf]; omega)
        · have HI := Lib.hid (hI.out.other hai hlt b hbe h32)
          have hb32 : (((s[i]'hlt).toNat : Int) == 32) = false := by rw [hbs]; exact beq_eq_false_iff_ne.2 (Pure.byte_ne b 32 h32)
          clear hbs hbe h32 hie
          go_wp2
          go_roundw
          case rel => exact ⟨i + 1, at_, acc, by first | rfl | go_num, rfl, by omega, by omega, hR, hb, by omega, HI⟩
          case measure => first | (simp [RowKit.intOf]; done) | (simp [RowKit.intOf]; omega)
    · have hie : i = s.size + 1 := by omega
      rw [show ((i : Nat) : Int) = (s.size : Int) + 1 by omega]
      subst hie
      have hwsp := hI.out.done
      obtain ⟨A4, c4, rfl⟩ := Kd.R_slice hR
      have hrd := (Kd.R_reads' hR).2.2
      have hacl : acc.length ≤ 1000000002 := by omega
      have hr2 := (hb.block w.heap.size (by omega)).trans HR1.out
      have hbw := below_then hb1 hb1.size hb
      have hdl : decide ((s.size : Int) + 1 ≤ (s.size : Int)) = false := decide_eq_false (by omega)
      have HWS := Lib.hid hwsp
      have h16 : acc.length = 16 := by have := H16.out; rw [hwsp, List.length_map] at this; exact this
      have hn : ((acc.length : Int) != 16) = false := by rw [h16]; rfl
      obtain ⟨bk, o, hA, hbk, hcells⟩ := strs_at hrd (fun e => by rw [e] at h16; cases h16)
      obtain ⟨w4, hw4⟩ : ∃ w4, acc[4]? = some w4 := ⟨_, List.getElem?_eq_getElem (by omega)⟩
      have hia := fun (j : Nat) (hj : j < 16) W => idx_row acc.length c4 j bk o A4 W hA (by omega)
      have hia4 := hia 4 (by omega)
      have hc4 := hcells 4 w4 hw4
      rw [show ((4 : Nat) : Int) = 4 from rfl] at hia4
      have hg4 : (acc.map U.L).getD 4 [] = U.L w4 := by rw [List.getD_eq_getElem?_getD, List.getElem?_map, hw4]; rfl
      have HW4 : Hid (U.L w4 = [48]) := Lib.hid (by rw [← hg4, ← hwsp]; exact H4.out)
      have HG4 := Lib.hid hg4
      have HX4 := Lib.hid hw4
      have e0 : (w4.toList == [48]) = true := beq_lit w4 [48] true (decide_eq_true HW4.out)
      have HC := Lib.hid hcells
      have HIA := Lib.hid hia
      have HA16 := Lib.hid h16
      have hwz : ∀ x ∈ acc, x.size ≤ s.size := fun x hx => by
        have := splitC_le 32 (U.L s) (U.L x) (by rw [hwsp]; exact List.mem_map_of_mem hx)
        rwa [U.L_len, U.L_len] at this
      have HWZ := Lib.hid hwz
      clear hwsp hI hrd hR h16 hg4 hw4 hcells hA hia hwz
      go_wp2
      obtain ⟨V, rfl⟩ : ∃ V, V = wr := ⟨_, rfl⟩
      have hvl := blk_lt hr2
      have HR2 := Lib.hid hr2
      have HBW := Lib.hid hbw
      obtain ⟨W6, hW6⟩ : ∃ W6, W6 = (V.alloc (.cells #[.int .i64 0, .int .i64 0, .int .i64 0, .int .i64 0] 41)).alloc (.cells #[.string ⟨#[]⟩, .string ⟨#[]⟩, .string ⟨#[]⟩, .string ⟨#[]⟩, .string ⟨#[]⟩, .string ⟨#[]⟩, .string ⟨#[]⟩, .string ⟨#[]⟩, .string ⟨#[]⟩, .string ⟨#[]⟩, .string ⟨#[]⟩] 42) := ⟨_, rfl⟩
      rw [← hW6]
      have e1 : (V.alloc (.cells #[.int .i64 0, .int .i64 0, .int .i64 0, .int .i64 0] 41)).heap.size = V.heap.size + 1 := by show (V.heap.push _).size = _; simp
      have hb6 : Below V.heap.size V W6 := by rw [hW6]; exact below_alloc (below_alloc (Below.refl _ V) _) _
      have hn6 : W6.heap[V.heap.size]? = some (.cells (numA []) 41 (0, 0)) := by
        rw [hW6]
        exact (Below.heap_alloc _ _ _ (by rw [e1]; omega)).trans (heap_alloc_new V _)
      have ht6 : W6.heap[V.heap.size + 1]? = some (.cells (txtA []) 42 (0, 0)) := by
        rw [hW6, ← e1]
        exact heap_alloc_new _ _
      clear hW6 e1 hr2 hbw hb hsz hdl hia4 hc4 e0
      go_loopw [9] (fun v9 wx => ∃ (j : Nat) (ks : List Int), v9 = .int .i64 j ∧ j ≤ 4 ∧ ks.length = j ∧ wx.heap[V.heap.size]? = some (.cells (numA ks) 41 (0, 0)) ∧ wx.heap[V.heap.size + 1]? = some (.cells (txtA []) 42 (0, 0)) ∧ Below V.heap.size V wx ∧ Hid (Q.allSome (((acc.map U.L).take j).map Q.numL) = some ks)) (fun v9 wx => 4 - (RowKit.intOf v9).toNat)
      case atStart => exact ⟨0, [], rfl, Nat.zero_le _, rfl, hn6, ht6, hb6, Lib.hid rfl⟩
      case round =>
        clear hn6 ht6 hb6
        obtain ⟨j, ks, rfl, hj4, hkl, hn, ht, hb, hks⟩ := hrel
        have hsz := hb.size
        by_cases hj : j < 4
        · obtain ⟨x, hx⟩ : ∃ x, acc[j]? = some x := ⟨_, List.getElem?_eq_getElem (by rw [HA16.out]; omega)⟩
          have hi0 := HIA.out j (by omega)
          have hc0 := (hb.cell (p := ⟨bk, o + j, none⟩) hbk).trans (HC.out j x hx)
          have hxs := HWZ.out x (List.mem_of_getElem? hx)
          obtain ⟨kn, hkn⟩ := Pure.number_ev x (by omega)
          have hU := hkn kn (Nat.le_refl _)
          have hnext : ∀ a, Q.numL (U.L x) = a → Q.allSome (((acc.map U.L).take (j + 1)).map Q.numL) = a.bind fun t => some (ks ++ [t]) := fun a ha => by
            rw [List.take_add_one, List.map_append, Q.allSome_app, hks.out]
            have : (acc.map U.L)[j]? = some (U.L x) := by rw [List.getElem?_map, hx]; rfl
            rw [this]
            simp only [Option.toList_some, List.map_cons, List.map_nil, Q.allSome, ha]
            cases a <;> rfl
          obtain ⟨hset, hput⟩ := num_set ks (by omega)
          rw [hkl] at hset hput
          unfold Pure.numR at hU
          clear hkn hx
          cases hnl : Q.numL (U.L x) with
          | none =>
            exfalso
            have hh := HH.out
            rw [HWS.out, Q.read_failN (j + 1) (by omega) (hnext none hnl)] at hh
            cases hh
          | some v =>
            rw [hnl] at hU
            have HU := Lib.hid hU
            have HN := Lib.hid (hnext (some v) hnl)
            have hia := fun W => idx_num V.heap.size j W hj
            clear hnext hnl hU
            go_wp2_with (go_at_call 16; (with_reducible refine (figureheadref25_number.calls kn x _ _ _ HU.out).mono ?_); rintro e W5 ⟨rfl, d5⟩; have b5 := d5.below; clear d5; have hn5 := heap_keepsS b5 hn; have ht5 := heap_keepsS b5 ht; have hb5 := below_step hb b5; have hnf := blk_frozen hn5 j; have hnc := (blk_cell hn5 j).trans hset)
            go_roundw
            case rel =>
              refine ⟨j + 1, ks ++ [v], by go_num, by omega, by simp [hkl], blk_put2 hn5 j _ (hput v), blk_far ht5 (by show V.heap.size + 1 ≠ V.heap.size; omega) _, below_set hb5 (Nat.le_refl _), Lib.hid ?_⟩
              rw [HN.out]
              rfl
            case measure => first | (simp [RowKit.intOf]; done) | (simp [RowKit.intOf]; omega)
        · have hje : j = 4 := by omega
          rw [show ((j : Nat) : Int) = 4 by omega]
          subst hje
          clear hsz hj4 hj
          go_wp2
          go_loopw [12] (fun v12 wx => ∃ (j : Nat) (ts : List ByteArray), v12 = .int .i64 j ∧ j ≤ 11 ∧ ts.length = j ∧ wx.heap[V.heap.size]? = some (.cells (numA ks) 41 (0, 0)) ∧ wx.heap[V.heap.size + 1]? = some (.cells (txtA ts) 42 (0, 0)) ∧ Below V.heap.size V wx ∧ Hid (Q.allSome ((((acc.map U.L).drop 5).take j).map Q.bytesX) = some (ts.map U.L))) (fun v12 wx => 11 - (RowKit.intOf v12).toNat)
          case atStart => exact ⟨0, [], rfl, Nat.zero_le _, rfl, hn, ht, hb, Lib.hid rfl⟩
          case round =>
            clear hn ht hb
            obtain ⟨j, ts, rfl, hj11, htl, hn, ht, hb, hts⟩ := hrel
            have hsz := hb.size
            by_cases hj : j < 11
            · obtain ⟨x, hx⟩ : ∃ x, acc[5 + j]? = some x := ⟨_, List.getElem?_eq_getElem (by rw [HA16.out]; omega)⟩
              have hi0 := HIA.out (5 + j) (by omega)
              rw [show ((5 + j : Nat) : Int) = 5 + (j : Int) by omega] at hi0
              have hc0 := (hb.cell (p := ⟨bk, o + (5 + j), none⟩) hbk).trans (HC.out (5 + j) x hx)
              have hxs := HWZ.out x (List.mem_of_getElem? hx)
              obtain ⟨kn, hkn⟩ := Pure.bytes25_ev x (by omega)
              have hU := hkn kn (Nat.le_refl _)
              have hnext : ∀ a, Q.bytesX (U.L x) = a → Q.allSome ((((acc.map U.L).drop 5).take (j + 1)).map Q.bytesX) = a.bind fun t => some (ts.map U.L ++ [t]) := fun a ha => by
                rw [List.take_add_one, List.map_append, Q.allSome_app, hts.out]
                have : ((acc.map U.L).drop 5)[j]? = some (U.L x) := by rw [List.getElem?_drop, List.getElem?_map, hx]; rfl
                rw [this]
                simp only [Option.toList_some, List.map_cons, List.map_nil, Q.allSome, ha]
                cases a <;> rfl
              obtain ⟨hset, hput⟩ := txt_set ts (by omega)
              rw [htl] at hset hput
              unfold Pure.bytesR at hU
              clear hkn hx
              cases hnl : Q.bytesX (U.L x) with
              | none =>
                exfalso
                have hh := HH.out
                rw [HWS.out, Q.read_failT (j + 1) (hnext none hnl)] at hh
                cases hh
              | some v =>
                rw [hnl] at hU
                have HU := Lib.hid hU
                have HN := Lib.hid (hnext (some v) hnl)
                have hia := fun W => idx_txt (V.heap.size + 1) j W hj
                clear hnext hnl hU
                go_wp2_with (go_at_call 17; (with_reducible refine (figureheadref25_bytes.calls kn x _ _ _ HU.out).mono ?_); rintro e W5 ⟨rfl, b5⟩; have hn5 := heap_keepsS b5 hn; have ht5 := heap_keepsS b5 ht; have hb5 := below_step hb b5; have hnf := blk_frozen ht5 j; have hnc := (blk_cell ht5 j).trans hset)
                go_roundw
                case rel =>
                  refine ⟨j + 1, ts ++ [mkB v], by go_num, by omega, by simp [htl], blk_far hn5 (by show V.heap.size ≠ V.heap.size + 1; omega) _, blk_put2 ht5 j _ (hput (mkB v)), below_set hb5 (by show V.heap.size ≤ V.heap.size + 1; omega), Lib.hid ?_⟩
                  rw [HN.out, List.map_append]
                  simp [mkB, U.L_mk]
                case measure => first | (simp [RowKit.intOf]; done) | (simp [RowKit.intOf]; omega)
            · have hje : j = 11 := by omega
              rw [show ((j : Nat) : Int) = 11 by omega]
              subst hje
              have htt : Q.allSome (((acc.map U.L).drop 5).map Q.bytesX) = some (ts.map U.L) := by
                have := hts.out
                rwa [List.take_of_length_le (by rw [List.length_drop, List.length_map, HA16.out]; omega)] at this
              have hrr := (Q.read_nums (l := acc.map U.L) (by rw [List.length_map]; exact HA16.out) (by rw [← HWS.out]; exact .inl H4.out) hks.out htt).1
              have hi2 := fun W => idx_num V.heap.size 2 W (by omega)
              rw [show ((2 : Nat) : Int) = 2 from rfl] at hi2
              obtain ⟨zz, hzz⟩ : ∃ zz, zz = ks.getD 2 0 := ⟨_, rfl⟩
              have hc2 : wr.cell? ⟨V.heap.size, 2, none⟩ = some (.int .i64 zz) := (blk_cell hn 2).trans (by rw [hzz]; rfl)
              rw [← hzz] at hrr
              have hh := HH.out
              rw [HWS.out, hrr] at hh
              have HZ := Lib.hid hzz
              clear hzz hrr htt hsz hj11 hj
              by_cases hrg : -2147483648 ≤ zz ∧ zz ≤ 2147483647
              rotate_left
              · rw [if_neg hrg] at hh
                cases hh
              rw [if_pos hrg] at hh
              have hcm := Option.some.inj hh
              have e0 : decide (zz < -2147483648) = false := decide_eq_false (by omega)
              have e1 : decide (2147483648 ≤ zz) = false := decide_eq_false (by omega)
              obtain ⟨n0, n1, n2, n3, rfl⟩ := list4 ks hkl
              obtain ⟨x0, x1, x2, x3, x4, x5, x6, x7, x8, x9, x10, rfl⟩ := list11 ts htl
              have hz2 : zz = n2 := HZ.out
              subst hz2
              have hres : ofCm cm = ⟨n0, n1, x0, ⟨zz, x3, x4, x5, x6, x7, x8, x9, x10⟩, ⟨false, x2, n3⟩, x1⟩ := by
                rw [← hcm, HG4.out, HW4.out]
                simp [ofCm, recOf, mkB, U.mk_L]
              have HRES := Lib.hid hres
              have HRG := Lib.hid hrg
              have hwz : wrap32 zz = zz := by unfold wrap32; omega
              have cn0 : wr.cell? ⟨V.heap.size, 0, none⟩ = some (.int .i64 n0) := blk_cell hn 0
              have in0 := fun W => idx_num V.heap.size 0 W (by omega)
              rw [show ((0 : Nat) : Int) = 0 from rfl] at in0
              have cn1 : wr.cell? ⟨V.heap.size, 1, none⟩ = some (.int .i64 n1) := blk_cell hn 1
              have in1 := fun W => idx_num V.heap.size 1 W (by omega)
              rw [show ((1 : Nat) : Int) = 1 from rfl] at in1
              have cn2 : wr.cell? ⟨V.heap.size, 2, none⟩ = some (.int .i64 zz) := blk_cell hn 2
              have cn3 : wr.cell? ⟨V.heap.size, 3, none⟩ = some (.int .i64 n3) := blk_cell hn 3
              have in3 := fun W => idx_num V.heap.size 3 W (by omega)
              rw [show ((3 : Nat) : Int) = 3 from rfl] at in3
              have ct0 : wr.cell? ⟨V.heap.size + 1, 0, none⟩ = some (.string x0) := blk_cell ht 0
              have it0 := fun W => idx_txt (V.heap.size + 1) 0 W (by omega)
              rw [show ((0 : Nat) : Int) = 0 from rfl] at it0
              have ct1 : wr.cell? ⟨V.heap.size + 1, 1, none⟩ = some (.string x1) := blk_cell ht 1
              have it1 := fun W => idx_txt (V.heap.size + 1) 1 W (by omega)
              rw [show ((1 : Nat) : Int) = 1 from rfl] at it1
              have ct2 : wr.cell? ⟨V.heap.size + 1, 2, none⟩ = some (.string x2) := blk_cell ht 2
              have it2 := fun W => idx_txt (V.heap.size + 1) 2 W (by omega)
              rw [show ((2 : Nat) : Int) = 2 from rfl] at it2
              have ct3 : wr.cell? ⟨V.heap.size + 1, 3, none⟩ = some (.string x3) := blk_cell ht 3
              have it3 := fun W => idx_txt (V.heap.size + 1) 3 W (by omega)
              rw [show ((3 : Nat) : Int) = 3 from rfl] at it3
              have ct4 : wr.cell? ⟨V.heap.size + 1, 4, none⟩ = some (.string x4) := blk_cell ht 4
              have it4 := fun W => idx_txt (V.heap.size + 1) 4 W (by omega)
              rw [show ((4 : Nat) : Int) = 4 from rfl] at it4
              have ct5 : wr.cell? ⟨V.heap.size + 1, 5, none⟩ = some (.string x5) := blk_cell ht 5
              have it5 := fun W => idx_txt (V.heap.size + 1) 5 W (by omega)
              rw [show ((5 : Nat) : Int) = 5 from rfl] at it5
              have ct6 : wr.cell? ⟨V.heap.size + 1, 6, none⟩ = some (.string x6) := blk_cell ht 6
              have it6 := fun W => idx_txt (V.heap.size + 1) 6 W (by omega)
              rw [show ((6 : Nat) : Int) = 6 from rfl] at it6
              have ct7 : wr.cell? ⟨V.heap.size + 1, 7, none⟩ = some (.string x7) := blk_cell ht 7
              have it7 := fun W => idx_txt (V.heap.size + 1) 7 W (by omega)
              rw [show ((7 : Nat) : Int) = 7 from rfl] at it7
              have ct8 : wr.cell? ⟨V.heap.size + 1, 8, none⟩ = some (.string x8) := blk_cell ht 8
              have it8 := fun W => idx_txt (V.heap.size + 1) 8 W (by omega)
              rw [show ((8 : Nat) : Int) = 8 from rfl] at it8
              have ct9 : wr.cell? ⟨V.heap.size + 1, 9, none⟩ = some (.string x9) := blk_cell ht 9
              have it9 := fun W => idx_txt (V.heap.size + 1) 9 W (by omega)
              rw [show ((9 : Nat) : Int) = 9 from rfl] at it9
              have ct10 : wr.cell? ⟨V.heap.size + 1, 10, none⟩ = some (.string x10) := blk_cell ht 10
              have it10 := fun W => idx_txt (V.heap.size + 1) 10 W (by omega)
              rw [show ((10 : Nat) : Int) = 10 from rfl] at it10
              have hi4 := HIA.out 4 (by omega)
              rw [show ((4 : Nat) : Int) = 4 from rfl] at hi4
              have hc4 : wr.cell? ⟨bk, o + 4, none⟩ = some (.string w4) := (hb.cell (p := ⟨bk, o + 4, none⟩) hbk).trans (HC.out 4 w4 HX4.out)
              have e4 : (w4.toList == [49]) = false := beq_lit w4 [49] false (by rw [HW4.out]; decide)
              have hlv := blk_lt ht
              have HNB := Lib.hid hn
              have HTB := Lib.hid ht
              have HB := Lib.hid hb
              have hlr : w.heap.size < V.heap.size := hvl
              clear hcm hh hres hn ht hb hkl htl hrg hwz
              go_wp2
              have hla : V.heap.size < wr.heap.size := by omega
              have hlb2 : bk < wr.heap.size := World.block_lt_of_cell? wr _ hc4
              go_region_held3 (fun w' => w'.cell? ⟨V.heap.size, 0, none⟩ = some (.int .i64 n0) ∧ w'.cell? ⟨V.heap.size, 1, none⟩ = some (.int .i64 n1) ∧ w'.cell? ⟨V.heap.size, 3, none⟩ = some (.int .i64 n3) ∧ w'.cell? ⟨V.heap.size + 1, 0, none⟩ = some (.string x0) ∧ w'.cell? ⟨V.heap.size + 1, 1, none⟩ = some (.string x1) ∧ w'.cell? ⟨V.heap.size + 1, 2, none⟩ = some (.string x2) ∧ w'.cell? ⟨bk, o + 4, none⟩ = some (.string w4)) (first | go_keep | exact ⟨by assumption, by assumption, by assumption, by assumption, by assumption, by assumption, by assumption⟩) (first | fail)
              have hcm2 : ∀ C, (wr.alloc C).drew = (wr.drew).alloc C := fun _ => rfl
              rw [hcm2]
              obtain ⟨w2, hw2⟩ : ∃ w2, w2 = wr.drew := ⟨_, rfl⟩
              have hsz2 : wr.heap.size = w2.heap.size := by rw [hw2]; rfl
              rw [← hw2, hsz2]
              have hn2 : w2.heap[V.heap.size]? = some (.cells (numA [n0, n1, zz, n3]) 41 (0, 0)) := by rw [hw2]; exact HNB.out
              have ht2 : w2.heap[V.heap.size + 1]? = some (.cells (txtA [x0, x1, x2, x3, x4, x5, x6, x7, x8, x9, x10]) 42 (0, 0)) := by rw [hw2]; exact HTB.out
              have HR5 : Hid (w2.heap[w.heap.size]? = some (.cells (cmdV z29) 29 (0, 0))) := Lib.hid (by rw [hw2]; exact (HB.out.block _ hvl).trans HR2.out)
              have hb5 : Below w.heap.size w w2 := by rw [hw2]; exact below_drew1 (below_step HBW.out HB.out)
              have hl2 : V.heap.size + 1 < w2.heap.size := blk_lt ht2
              have hl2a : V.heap.size < w2.heap.size := by omega
              have hl2r : w.heap.size < w2.heap.size := by omega
              have hl2n : w.heap.size ≠ w2.heap.size := by omega
              clear cn0 cn1 cn2 cn3 ct0 ct1 ct2 ct3 ct4 ct5 ct6 ct7 ct8 ct9 ct10 hc4 hw2 hc2 hsz2 hcm2 hla hlb2 hlv
              have cn0b : w2.cell? ⟨V.heap.size, 0, none⟩ = some (.int .i64 n0) := blk_cell hn2 0
              have cn1b : w2.cell? ⟨V.heap.size, 1, none⟩ = some (.int .i64 n1) := blk_cell hn2 1
              have cn2b : w2.cell? ⟨V.heap.size, 2, none⟩ = some (.int .i64 zz) := blk_cell hn2 2
              have cn3b : w2.cell? ⟨V.heap.size, 3, none⟩ = some (.int .i64 n3) := blk_cell hn2 3
              have ct0b : w2.cell? ⟨V.heap.size + 1, 0, none⟩ = some (.string x0) := blk_cell ht2 0
              have ct1b : w2.cell? ⟨V.heap.size + 1, 1, none⟩ = some (.string x1) := blk_cell ht2 1
              have ct2b : w2.cell? ⟨V.heap.size + 1, 2, none⟩ = some (.string x2) := blk_cell ht2 2
              have ct3b : w2.cell? ⟨V.heap.size + 1, 3, none⟩ = some (.string x3) := blk_cell ht2 3
              have ct4b : w2.cell? ⟨V.heap.size + 1, 4, none⟩ = some (.string x4) := blk_cell ht2 4
              have ct5b : w2.cell? ⟨V.heap.size + 1, 5, none⟩ = some (.string x5) := blk_cell ht2 5
              have ct6b : w2.cell? ⟨V.heap.size + 1, 6, none⟩ = some (.string x6) := blk_cell ht2 6
              have ct7b : w2.cell? ⟨V.heap.size + 1, 7, none⟩ = some (.string x7) := blk_cell ht2 7
              have ct8b : w2.cell? ⟨V.heap.size + 1, 8, none⟩ = some (.string x8) := blk_cell ht2 8
              have ct9b : w2.cell? ⟨V.heap.size + 1, 9, none⟩ = some (.string x9) := blk_cell ht2 9
              have ct10b : w2.cell? ⟨V.heap.size + 1, 10, none⟩ = some (.string x10) := blk_cell ht2 10
              have hrf := blk_frozen HR5.out
              obtain ⟨q0, q1, q2, q3, q4, q5, q6, q7, q8, q9, q10, q11, q12, q13, q14, q15⟩ := zero_cells HR5.out
              clear hn2 ht2
              go_wp2
              have hrg := HRG.out
              have hwz : wrap32 zz = zz := by unfold wrap32; omega
              rw [HRES.out]
              refine bodyPost_ret (results_cell_tmp rfl _ _ w.heap.size 29 (cmdV ⟨n0, n1, x0, ⟨wrap32 zz, x3, x4, x5, x6, x7, x8, x9, x10⟩, ⟨false, x2, n3⟩, x1⟩) (0, 0) _ rfl (blk_alloc (store_all z29 ⟨n0, n1, x0, ⟨wrap32 zz, x3, x4, x5, x6, x7, x8, x9, x10⟩, ⟨false, x2, n3⟩, x1⟩ HR5.out) _) rfl rfl (by kernel_rfl)) rfl ⟨?_, below_alloc (below_all ⟨n0, n1, x0, ⟨wrap32 zz, x3, x4, x5, x6, x7, x8, x9, x10⟩, ⟨false, x2, n3⟩, x1⟩ hb5 (Nat.le_refl _)) _⟩
              rw [hwz]
              rfl

set_option maxHeartbeats 8000000 in
set_option maxRecDepth 1000000 in
theorem rl_ok49 (s : ByteArray) (w : World) (hs : s.size ≤ 1000000000) (cm : Q.Cm) (h : Q.readW (Q.splitC 32 (U.L s)) = some cm) (h16 : (Q.splitC 32 (U.L s)).length = 16) (h4 : (Q.splitC 32 (U.L s)).getD 4 [] = [49]) :
    Calls Tryd.prog 9 #[.string s] w fun e w' => e = .returned (.tuple #[.agg (cmdV (ofCm cm)), .bool true]) ∧ Below w.heap.size w w' := by
  obtain ⟨W1, hW1⟩ : ∃ W1, W1 = w.alloc (.cells #[.int .i64 0, .int .i64 0, .string ⟨#[]⟩, .int .i32 0, .string ⟨#[]⟩, .string ⟨#[]⟩, .string ⟨#[]⟩, .string ⟨#[]⟩, .string ⟨#[]⟩, .string ⟨#[]⟩, .string ⟨#[]⟩, .string ⟨#[]⟩, .bool false, .string ⟨#[]⟩, .int .i64 0, .string ⟨#[]⟩] 29) := ⟨_, rfl⟩
  have hs1 : W1.heap.size = w.heap.size + 1 := by rw [hW1]; show (w.heap.push _).size = _; simp
  have hb1 : Below w.heap.size w W1 := by rw [hW1]; exact below_alloc (Below.refl _ w) _
  have hr1 : W1.heap[w.heap.size]? = some (.cells (cmdV z29) 29 (0, 0)) := by
    rw [hW1]
    exact heap_alloc_new w _
  have HW1 := Lib.hid hW1
  have HR1 := Lib.hid hr1
  have HH := Lib.hid h
  have H16 := Lib.hid h16
  have H4 := Lib.hid h4
  clear hW1 hr1 h h16 h4
  go_enter Tryd.func9, Tryd.ntmps9
  go_wp2
  rw [← HW1.out]
  go_loopw [4, 5, 6] (fun v4 v5 v6 wx => ∃ (i at_ : Nat) (acc : List ByteArray), v6 = .int .i64 i ∧ v5 = .int .i64 at_ ∧ at_ ≤ i ∧ i ≤ s.size + 1 ∧ Kd.string.R 9 wx W1.heap.size (fun _ => True) v4 acc ∧ Below W1.heap.size W1 wx ∧ acc.length ≤ i ∧ Hid (LoopI s i at_ acc)) (fun v4 v5 v6 wx => s.size + 1 - (RowKit.intOf v6).toNat)
  case atStart => exact ⟨0, 0, [], rfl, rfl, Nat.le_refl _, Nat.zero_le _, Kd.R_nil _ _ _ _ _, Below.refl _ W1, Nat.le_refl _, Lib.hid (LoopI.start s)⟩
  case round =>
    obtain ⟨i, at_, acc, rfl, rfl, hai, his, hR, hb, hal, hI⟩ := hrel
    have hsz := hb.size
    by_cases hi : i ≤ s.size
    · by_cases hie : i = s.size
      · have HI := Lib.hid ((hie ▸ hI.out).atEnd (hie ▸ hai))
        subst hie
        have hse : ((s.size : Int) == (s.size : Int)) = true := beq_self_eq_true _
        go_wp2_with (((with_reducible refine gate_builtin (b := .append) (xs := #[.tmp 32, .tmp 37]) rfl ?_); at_builtin; refine Kd.R_append Kd.string (w0 := W1) W1.heap.size rfl (.tmp 32) (.tmp 37) 40 9 (.string ByteArray.empty) 16 rfl Tryd.underlying40 (by kernel_rfl) rfl (by decide) (by omega) u4 acc (s.extract at_ s.size) [.string (s.extract at_ s.size)] (fun _ => True) (fun _ => False) rfl rfl ?aP (fun _ hk => hk.elim) ?aF ?aO ?aB ?aS ?aL ?_; (case aP => exact rfl); (case aB => exact hb); (case aF => exact (fun _ _ => trivial)); (case aO => exact hR); (case aS => exact hsz); (case aL => omega); intro v140 w10 ho hbn hg hat; clear hg hat))
        go_roundw
        case rel => exact ⟨s.size + 1, s.size + 1, _, by first | rfl | go_num, by first | rfl | go_num, Nat.le_refl _, Nat.le_refl _, ho, hbn, by simp; omega, HI⟩
        case measure => first | (simp [RowKit.intOf]; done) | (simp [RowKit.intOf]; omega)
      · have hlt : i < s.size := by omega
        obtain ⟨b, hbe⟩ : ∃ b, (U.L s)[i]? = some b := ⟨_, List.getElem?_eq_getElem (by rw [U.L_len]; exact hlt)⟩
        have hne : ((i : Int) == (s.size : Int)) = false := beq_eq_false_iff_ne.2 (by omega)
        have hbs : s[i]'hlt = b := by
          have h1 := List.getElem?_eq_some_iff.1 hbe
          exact h1.2
        by_cases h32 : b = 32
        · have HI := Lib.hid (hI.out.space hai hlt (by rw [hbe, h32]))
          have hb32 : (((s[i]'hlt).toNat : Int) == 32) = true := by rw [hbs, h32]; rfl
          clear hbs hbe h32 hie
          go_wp2_with (((with_reducible refine gate_builtin (b := .append) (xs := #[.tmp 32, .tmp 37]) rfl ?_); at_builtin; refine Kd.R_append Kd.string (w0 := W1) W1.heap.size rfl (.tmp 32) (.tmp 37) 40 9 (.string ByteArray.empty) 16 rfl Tryd.underlying40 (by kernel_rfl) rfl (by decide) (by omega) u4 acc (s.extract at_ i) [.string (s.extract at_ i)] (fun _ => True) (fun _ => False) rfl rfl ?aP (fun _ hk => hk.elim) ?aF ?aO ?aB ?aS ?aL ?_; (case aP => exact rfl); (case aB => exact hb); (case aF => exact (fun _ _ => trivial)); (case aO => exact hR); (case aS => exact hsz); (case aL => omega); intro v140 w10 ho hbn hg hat; clear hg hat))
          go_roundw
          case rel => exact ⟨i + 1, i + 1, _, by first | rfl | go_num, by first | rfl | go_num, Nat.le_refl _, by omega, ho, hbn, by simp; omega, HI⟩
          case measure => first | (simp [RowKit.intOf]; done) | (simp [RowKit.intOf]; omega)
        · have HI := Lib.hid (hI.out.other hai hlt b hbe h32)
          have hb32 : (((s[i]'hlt).toNat : Int) == 32) = false := by rw [hbs]; exact beq_eq_false_iff_ne.2 (Pure.byte_ne b 32 h32)
          clear hbs hbe h32 hie
          go_wp2
          go_roundw
          case rel => exact ⟨i + 1, at_, acc, by first | rfl | go_num, rfl, by omega, by omega, hR, hb, by omega, HI⟩
          case measure => first | (simp [RowKit.intOf]; done) | (simp [RowKit.intOf]; omega)
    · have hie : i = s.size + 1 := by omega
      rw [show ((i : Nat) : Int) = (s.size : Int) + 1 by omega]
      subst hie
      have hwsp := hI.out.done
      obtain ⟨A4, c4, rfl⟩ := Kd.R_slice hR
      have hrd := (Kd.R_reads' hR).2.2
      have hacl : acc.length ≤ 1000000002 := by omega
      have hr2 := (hb.block w.heap.size (by omega)).trans HR1.out
      have hbw := below_then hb1 hb1.size hb
      have hdl : decide ((s.size : Int) + 1 ≤ (s.size : Int)) = false := decide_eq_false (by omega)
      have HWS := Lib.hid hwsp
      have h16 : acc.length = 16 := by have := H16.out; rw [hwsp, List.length_map] at this; exact this
      have hn : ((acc.length : Int) != 16) = false := by rw [h16]; rfl
      obtain ⟨bk, o, hA, hbk, hcells⟩ := strs_at hrd (fun e => by rw [e] at h16; cases h16)
      obtain ⟨w4, hw4⟩ : ∃ w4, acc[4]? = some w4 := ⟨_, List.getElem?_eq_getElem (by omega)⟩
      have hia := fun (j : Nat) (hj : j < 16) W => idx_row acc.length c4 j bk o A4 W hA (by omega)
      have hia4 := hia 4 (by omega)
      have hc4 := hcells 4 w4 hw4
      rw [show ((4 : Nat) : Int) = 4 from rfl] at hia4
      have hg4 : (acc.map U.L).getD 4 [] = U.L w4 := by rw [List.getD_eq_getElem?_getD, List.getElem?_map, hw4]; rfl
      have HW4 : Hid (U.L w4 = [49]) := Lib.hid (by rw [← hg4, ← hwsp]; exact H4.out)
      have HG4 := Lib.hid hg4
      have HX4 := Lib.hid hw4
      have e0 : (w4.toList == [48]) = false := beq_lit w4 [48] false (decide_eq_false (by rw [HW4.out]; decide))
      have eb1 : (w4.toList == [49]) = true := beq_lit w4 [49] true (decide_eq_true HW4.out)
      have HC := Lib.hid hcells
      have HIA := Lib.hid hia
      have HA16 := Lib.hid h16
      have hwz : ∀ x ∈ acc, x.size ≤ s.size := fun x hx => by
        have := splitC_le 32 (U.L s) (U.L x) (by rw [hwsp]; exact List.mem_map_of_mem hx)
        rwa [U.L_len, U.L_len] at this
      have HWZ := Lib.hid hwz
      clear hwsp hI hrd hR h16 hg4 hw4 hcells hA hia hwz
      go_wp2
      obtain ⟨V, rfl⟩ : ∃ V, V = wr := ⟨_, rfl⟩
      have hvl := blk_lt hr2
      have HR2 := Lib.hid hr2
      have HBW := Lib.hid hbw
      obtain ⟨W6, hW6⟩ : ∃ W6, W6 = (V.alloc (.cells #[.int .i64 0, .int .i64 0, .int .i64 0, .int .i64 0] 41)).alloc (.cells #[.string ⟨#[]⟩, .string ⟨#[]⟩, .string ⟨#[]⟩, .string ⟨#[]⟩, .string ⟨#[]⟩, .string ⟨#[]⟩, .string ⟨#[]⟩, .string ⟨#[]⟩, .string ⟨#[]⟩, .string ⟨#[]⟩, .string ⟨#[]⟩] 42) := ⟨_, rfl⟩
      rw [← hW6]
      have e1 : (V.alloc (.cells #[.int .i64 0, .int .i64 0, .int .i64 0, .int .i64 0] 41)).heap.size = V.heap.size + 1 := by show (V.heap.push _).size = _; simp
      have hb6 : Below V.heap.size V W6 := by rw [hW6]; exact below_alloc (below_alloc (Below.refl _ V) _) _
      have hn6 : W6.heap[V.heap.size]? = some (.cells (numA []) 41 (0, 0)) := by
        rw [hW6]
        exact (Below.heap_alloc _ _ _ (by rw [e1]; omega)).trans (heap_alloc_new V _)
      have ht6 : W6.heap[V.heap.size + 1]? = some (.cells (txtA []) 42 (0, 0)) := by
        rw [hW6, ← e1]
        exact heap_alloc_new _ _
      clear hW6 e1 hr2 hbw hb hsz hdl hia4 hc4 e0 eb1
      go_loopw [9] (fun v9 wx => ∃ (j : Nat) (ks : List Int), v9 = .int .i64 j ∧ j ≤ 4 ∧ ks.length = j ∧ wx.heap[V.heap.size]? = some (.cells (numA ks) 41 (0, 0)) ∧ wx.heap[V.heap.size + 1]? = some (.cells (txtA []) 42 (0, 0)) ∧ Below V.heap.size V wx ∧ Hid (Q.allSome (((acc.map U.L).take j).map Q.numL) = some ks)) (fun v9 wx => 4 - (RowKit.intOf v9).toNat)
      case atStart => exact ⟨0, [], rfl, Nat.zero_le _, rfl, hn6, ht6, hb6, Lib.hid rfl⟩
      case round =>
        clear hn6 ht6 hb6
        obtain ⟨j, ks, rfl, hj4, hkl, hn, ht, hb, hks⟩ := hrel
        have hsz := hb.size
        by_cases hj : j < 4
        · obtain ⟨x, hx⟩ : ∃ x, acc[j]? = some x := ⟨_, List.getElem?_eq_getElem (by rw [HA16.out]; omega)⟩
          have hi0 := HIA.out j (by omega)
          have hc0 := (hb.cell (p := ⟨bk, o + j, none⟩) hbk).trans (HC.out j x hx)
          have hxs := HWZ.out x (List.mem_of_getElem? hx)
          obtain ⟨kn, hkn⟩ := Pure.number_ev x (by omega)
          have hU := hkn kn (Nat.le_refl _)
          have hnext : ∀ a, Q.numL (U.L x) = a → Q.allSome (((acc.map U.L).take (j + 1)).map Q.numL) = a.bind fun t => some (ks ++ [t]) := fun a ha => by
            rw [List.take_add_one, List.map_append, Q.allSome_app, hks.out]
            have : (acc.map U.L)[j]? = some (U.L x) := by rw [List.getElem?_map, hx]; rfl
            rw [this]
            simp only [Option.toList_some, List.map_cons, List.map_nil, Q.allSome, ha]
            cases a <;> rfl
          obtain ⟨hset, hput⟩ := num_set ks (by omega)
          rw [hkl] at hset hput
          unfold Pure.numR at hU
          clear hkn hx
          cases hnl : Q.numL (U.L x) with
          | none =>
            exfalso
            have hh := HH.out
            rw [HWS.out, Q.read_failN (j + 1) (by omega) (hnext none hnl)] at hh
            cases hh
          | some v =>
            rw [hnl] at hU
            have HU := Lib.hid hU
            have HN := Lib.hid (hnext (some v) hnl)
            have hia := fun W => idx_num V.heap.size j W hj
            clear hnext hnl hU
            go_wp2_with (go_at_call 16; (with_reducible refine (figureheadref25_number.calls kn x _ _ _ HU.out).mono ?_); rintro e W5 ⟨rfl, d5⟩; have b5 := d5.below; clear d5; have hn5 := heap_keepsS b5 hn; have ht5 := heap_keepsS b5 ht; have hb5 := below_step hb b5; have hnf := blk_frozen hn5 j; have hnc := (blk_cell hn5 j).trans hset)
            go_roundw
            case rel =>
              refine ⟨j + 1, ks ++ [v], by go_num, by omega, by simp [hkl], blk_put2 hn5 j _ (hput v), blk_far ht5 (by show V.heap.size + 1 ≠ V.heap.size; omega) _, below_set hb5 (Nat.le_refl _), Lib.hid ?_⟩
              rw [HN.out]
              rfl
            case measure => first | (simp [RowKit.intOf]; done) | (simp [RowKit.intOf]; omega)
        · have hje : j = 4 := by omega
          rw [show ((j : Nat) : Int) = 4 by omega]
          subst hje
          clear hsz hj4 hj
          go_wp2
          go_loopw [12] (fun v12 wx => ∃ (j : Nat) (ts : List ByteArray), v12 = .int .i64 j ∧ j ≤ 11 ∧ ts.length = j ∧ wx.heap[V.heap.size]? = some (.cells (numA ks) 41 (0, 0)) ∧ wx.heap[V.heap.size + 1]? = some (.cells (txtA ts) 42 (0, 0)) ∧ Below V.heap.size V wx ∧ Hid (Q.allSome ((((acc.map U.L).drop 5).take j).map Q.bytesX) = some (ts.map U.L))) (fun v12 wx => 11 - (RowKit.intOf v12).toNat)
          case atStart => exact ⟨0, [], rfl, Nat.zero_le _, rfl, hn, ht, hb, Lib.hid rfl⟩
          case round =>
            clear hn ht hb
            obtain ⟨j, ts, rfl, hj11, htl, hn, ht, hb, hts⟩ := hrel
            have hsz := hb.size
            by_cases hj : j < 11
            · obtain ⟨x, hx⟩ : ∃ x, acc[5 + j]? = some x := ⟨_, List.getElem?_eq_getElem (by rw [HA16.out]; omega)⟩
              have hi0 := HIA.out (5 + j) (by omega)
              rw [show ((5 + j : Nat) : Int) = 5 + (j : Int) by omega] at hi0
              have hc0 := (hb.cell (p := ⟨bk, o + (5 + j), none⟩) hbk).trans (HC.out (5 + j) x hx)
              have hxs := HWZ.out x (List.mem_of_getElem? hx)
              obtain ⟨kn, hkn⟩ := Pure.bytes25_ev x (by omega)
              have hU := hkn kn (Nat.le_refl _)
              have hnext : ∀ a, Q.bytesX (U.L x) = a → Q.allSome ((((acc.map U.L).drop 5).take (j + 1)).map Q.bytesX) = a.bind fun t => some (ts.map U.L ++ [t]) := fun a ha => by
                rw [List.take_add_one, List.map_append, Q.allSome_app, hts.out]
                have : ((acc.map U.L).drop 5)[j]? = some (U.L x) := by rw [List.getElem?_drop, List.getElem?_map, hx]; rfl
                rw [this]
                simp only [Option.toList_some, List.map_cons, List.map_nil, Q.allSome, ha]
                cases a <;> rfl
              obtain ⟨hset, hput⟩ := txt_set ts (by omega)
              rw [htl] at hset hput
              unfold Pure.bytesR at hU
              clear hkn hx
              cases hnl : Q.bytesX (U.L x) with
              | none =>
                exfalso
                have hh := HH.out
                rw [HWS.out, Q.read_failT (j + 1) (hnext none hnl)] at hh
                cases hh
              | some v =>
                rw [hnl] at hU
                have HU := Lib.hid hU
                have HN := Lib.hid (hnext (some v) hnl)
                have hia := fun W => idx_txt (V.heap.size + 1) j W hj
                clear hnext hnl hU
                go_wp2_with (go_at_call 17; (with_reducible refine (figureheadref25_bytes.calls kn x _ _ _ HU.out).mono ?_); rintro e W5 ⟨rfl, b5⟩; have hn5 := heap_keepsS b5 hn; have ht5 := heap_keepsS b5 ht; have hb5 := below_step hb b5; have hnf := blk_frozen ht5 j; have hnc := (blk_cell ht5 j).trans hset)
                go_roundw
                case rel =>
                  refine ⟨j + 1, ts ++ [mkB v], by go_num, by omega, by simp [htl], blk_far hn5 (by show V.heap.size ≠ V.heap.size + 1; omega) _, blk_put2 ht5 j _ (hput (mkB v)), below_set hb5 (by show V.heap.size ≤ V.heap.size + 1; omega), Lib.hid ?_⟩
                  rw [HN.out, List.map_append]
                  simp [mkB, U.L_mk]
                case measure => first | (simp [RowKit.intOf]; done) | (simp [RowKit.intOf]; omega)
            · have hje : j = 11 := by omega
              rw [show ((j : Nat) : Int) = 11 by omega]
              subst hje
              have htt : Q.allSome (((acc.map U.L).drop 5).map Q.bytesX) = some (ts.map U.L) := by
                have := hts.out
                rwa [List.take_of_length_le (by rw [List.length_drop, List.length_map, HA16.out]; omega)] at this
              have hrr := (Q.read_nums (l := acc.map U.L) (by rw [List.length_map]; exact HA16.out) (by rw [← HWS.out]; exact .inr H4.out) hks.out htt).1
              have hi2 := fun W => idx_num V.heap.size 2 W (by omega)
              rw [show ((2 : Nat) : Int) = 2 from rfl] at hi2
              obtain ⟨zz, hzz⟩ : ∃ zz, zz = ks.getD 2 0 := ⟨_, rfl⟩
              have hc2 : wr.cell? ⟨V.heap.size, 2, none⟩ = some (.int .i64 zz) := (blk_cell hn 2).trans (by rw [hzz]; rfl)
              rw [← hzz] at hrr
              have hh := HH.out
              rw [HWS.out, hrr] at hh
              have HZ := Lib.hid hzz
              clear hzz hrr htt hsz hj11 hj
              by_cases hrg : -2147483648 ≤ zz ∧ zz ≤ 2147483647
              rotate_left
              · rw [if_neg hrg] at hh
                cases hh
              rw [if_pos hrg] at hh
              have hcm := Option.some.inj hh
              have e0 : decide (zz < -2147483648) = false := decide_eq_false (by omega)
              have e1 : decide (2147483648 ≤ zz) = false := decide_eq_false (by omega)
              obtain ⟨n0, n1, n2, n3, rfl⟩ := list4 ks hkl
              obtain ⟨x0, x1, x2, x3, x4, x5, x6, x7, x8, x9, x10, rfl⟩ := list11 ts htl
              have hz2 : zz = n2 := HZ.out
              subst hz2
              have hres : ofCm cm = ⟨n0, n1, x0, ⟨zz, x3, x4, x5, x6, x7, x8, x9, x10⟩, ⟨true, x2, n3⟩, x1⟩ := by
                rw [← hcm, HG4.out, HW4.out]
                simp [ofCm, recOf, mkB, U.mk_L]
              have HRES := Lib.hid hres
              have HRG := Lib.hid hrg
              have hwz : wrap32 zz = zz := by unfold wrap32; omega
              have cn0 : wr.cell? ⟨V.heap.size, 0, none⟩ = some (.int .i64 n0) := blk_cell hn 0
              have in0 := fun W => idx_num V.heap.size 0 W (by omega)
              rw [show ((0 : Nat) : Int) = 0 from rfl] at in0
              have cn1 : wr.cell? ⟨V.heap.size, 1, none⟩ = some (.int .i64 n1) := blk_cell hn 1
              have in1 := fun W => idx_num V.heap.size 1 W (by omega)
              rw [show ((1 : Nat) : Int) = 1 from rfl] at in1
              have cn2 : wr.cell? ⟨V.heap.size, 2, none⟩ = some (.int .i64 zz) := blk_cell hn 2
              have cn3 : wr.cell? ⟨V.heap.size, 3, none⟩ = some (.int .i64 n3) := blk_cell hn 3
              have in3 := fun W => idx_num V.heap.size 3 W (by omega)
              rw [show ((3 : Nat) : Int) = 3 from rfl] at in3
              have ct0 : wr.cell? ⟨V.heap.size + 1, 0, none⟩ = some (.string x0) := blk_cell ht 0
              have it0 := fun W => idx_txt (V.heap.size + 1) 0 W (by omega)
              rw [show ((0 : Nat) : Int) = 0 from rfl] at it0
              have ct1 : wr.cell? ⟨V.heap.size + 1, 1, none⟩ = some (.string x1) := blk_cell ht 1
              have it1 := fun W => idx_txt (V.heap.size + 1) 1 W (by omega)
              rw [show ((1 : Nat) : Int) = 1 from rfl] at it1
              have ct2 : wr.cell? ⟨V.heap.size + 1, 2, none⟩ = some (.string x2) := blk_cell ht 2
              have it2 := fun W => idx_txt (V.heap.size + 1) 2 W (by omega)
              rw [show ((2 : Nat) : Int) = 2 from rfl] at it2
              have ct3 : wr.cell? ⟨V.heap.size + 1, 3, none⟩ = some (.string x3) := blk_cell ht 3
              have it3 := fun W => idx_txt (V.heap.size + 1) 3 W (by omega)
              rw [show ((3 : Nat) : Int) = 3 from rfl] at it3
              have ct4 : wr.cell? ⟨V.heap.size + 1, 4, none⟩ = some (.string x4) := blk_cell ht 4
              have it4 := fun W => idx_txt (V.heap.size + 1) 4 W (by omega)
              rw [show ((4 : Nat) : Int) = 4 from rfl] at it4
              have ct5 : wr.cell? ⟨V.heap.size + 1, 5, none⟩ = some (.string x5) := blk_cell ht 5
              have it5 := fun W => idx_txt (V.heap.size + 1) 5 W (by omega)
              rw [show ((5 : Nat) : Int) = 5 from rfl] at it5
              have ct6 : wr.cell? ⟨V.heap.size + 1, 6, none⟩ = some (.string x6) := blk_cell ht 6
              have it6 := fun W => idx_txt (V.heap.size + 1) 6 W (by omega)
              rw [show ((6 : Nat) : Int) = 6 from rfl] at it6
              have ct7 : wr.cell? ⟨V.heap.size + 1, 7, none⟩ = some (.string x7) := blk_cell ht 7
              have it7 := fun W => idx_txt (V.heap.size + 1) 7 W (by omega)
              rw [show ((7 : Nat) : Int) = 7 from rfl] at it7
              have ct8 : wr.cell? ⟨V.heap.size + 1, 8, none⟩ = some (.string x8) := blk_cell ht 8
              have it8 := fun W => idx_txt (V.heap.size + 1) 8 W (by omega)
              rw [show ((8 : Nat) : Int) = 8 from rfl] at it8
              have ct9 : wr.cell? ⟨V.heap.size + 1, 9, none⟩ = some (.string x9) := blk_cell ht 9
              have it9 := fun W => idx_txt (V.heap.size + 1) 9 W (by omega)
              rw [show ((9 : Nat) : Int) = 9 from rfl] at it9
              have ct10 : wr.cell? ⟨V.heap.size + 1, 10, none⟩ = some (.string x10) := blk_cell ht 10
              have it10 := fun W => idx_txt (V.heap.size + 1) 10 W (by omega)
              rw [show ((10 : Nat) : Int) = 10 from rfl] at it10
              have hi4 := HIA.out 4 (by omega)
              rw [show ((4 : Nat) : Int) = 4 from rfl] at hi4
              have hc4 : wr.cell? ⟨bk, o + 4, none⟩ = some (.string w4) := (hb.cell (p := ⟨bk, o + 4, none⟩) hbk).trans (HC.out 4 w4 HX4.out)
              have e4 : (w4.toList == [49]) = true := beq_lit w4 [49] true (by rw [HW4.out]; decide)
              have hlv := blk_lt ht
              have HNB := Lib.hid hn
              have HTB := Lib.hid ht
              have HB := Lib.hid hb
              have hlr : w.heap.size < V.heap.size := hvl
              clear hcm hh hres hn ht hb hkl htl hrg hwz
              go_wp2
              have hla : V.heap.size < wr.heap.size := by omega
              have hlb2 : bk < wr.heap.size := World.block_lt_of_cell? wr _ hc4
              go_region_held3 (fun w' => w'.cell? ⟨V.heap.size, 0, none⟩ = some (.int .i64 n0) ∧ w'.cell? ⟨V.heap.size, 1, none⟩ = some (.int .i64 n1) ∧ w'.cell? ⟨V.heap.size, 3, none⟩ = some (.int .i64 n3) ∧ w'.cell? ⟨V.heap.size + 1, 0, none⟩ = some (.string x0) ∧ w'.cell? ⟨V.heap.size + 1, 1, none⟩ = some (.string x1) ∧ w'.cell? ⟨V.heap.size + 1, 2, none⟩ = some (.string x2) ∧ w'.cell? ⟨bk, o + 4, none⟩ = some (.string w4)) (first | go_keep | exact ⟨by assumption, by assumption, by assumption, by assumption, by assumption, by assumption, by assumption⟩) (first | fail)
              have hcm2 : ∀ C, (wr.alloc C).drew = (wr.drew).alloc C := fun _ => rfl
              rw [hcm2]
              obtain ⟨w2, hw2⟩ : ∃ w2, w2 = wr.drew := ⟨_, rfl⟩
              have hsz2 : wr.heap.size = w2.heap.size := by rw [hw2]; rfl
              rw [← hw2, hsz2]
              have hn2 : w2.heap[V.heap.size]? = some (.cells (numA [n0, n1, zz, n3]) 41 (0, 0)) := by rw [hw2]; exact HNB.out
              have ht2 : w2.heap[V.heap.size + 1]? = some (.cells (txtA [x0, x1, x2, x3, x4, x5, x6, x7, x8, x9, x10]) 42 (0, 0)) := by rw [hw2]; exact HTB.out
              have HR5 : Hid (w2.heap[w.heap.size]? = some (.cells (cmdV z29) 29 (0, 0))) := Lib.hid (by rw [hw2]; exact (HB.out.block _ hvl).trans HR2.out)
              have hb5 : Below w.heap.size w w2 := by rw [hw2]; exact below_drew1 (below_step HBW.out HB.out)
              have hl2 : V.heap.size + 1 < w2.heap.size := blk_lt ht2
              have hl2a : V.heap.size < w2.heap.size := by omega
              have hl2r : w.heap.size < w2.heap.size := by omega
              have hl2n : w.heap.size ≠ w2.heap.size := by omega
              clear cn0 cn1 cn2 cn3 ct0 ct1 ct2 ct3 ct4 ct5 ct6 ct7 ct8 ct9 ct10 hc4 hw2 hc2 hsz2 hcm2 hla hlb2 hlv
              have cn0b : w2.cell? ⟨V.heap.size, 0, none⟩ = some (.int .i64 n0) := blk_cell hn2 0
              have cn1b : w2.cell? ⟨V.heap.size, 1, none⟩ = some (.int .i64 n1) := blk_cell hn2 1
              have cn2b : w2.cell? ⟨V.heap.size, 2, none⟩ = some (.int .i64 zz) := blk_cell hn2 2
              have cn3b : w2.cell? ⟨V.heap.size, 3, none⟩ = some (.int .i64 n3) := blk_cell hn2 3
              have ct0b : w2.cell? ⟨V.heap.size + 1, 0, none⟩ = some (.string x0) := blk_cell ht2 0
              have ct1b : w2.cell? ⟨V.heap.size + 1, 1, none⟩ = some (.string x1) := blk_cell ht2 1
              have ct2b : w2.cell? ⟨V.heap.size + 1, 2, none⟩ = some (.string x2) := blk_cell ht2 2
              have ct3b : w2.cell? ⟨V.heap.size + 1, 3, none⟩ = some (.string x3) := blk_cell ht2 3
              have ct4b : w2.cell? ⟨V.heap.size + 1, 4, none⟩ = some (.string x4) := blk_cell ht2 4
              have ct5b : w2.cell? ⟨V.heap.size + 1, 5, none⟩ = some (.string x5) := blk_cell ht2 5
              have ct6b : w2.cell? ⟨V.heap.size + 1, 6, none⟩ = some (.string x6) := blk_cell ht2 6
              have ct7b : w2.cell? ⟨V.heap.size + 1, 7, none⟩ = some (.string x7) := blk_cell ht2 7
              have ct8b : w2.cell? ⟨V.heap.size + 1, 8, none⟩ = some (.string x8) := blk_cell ht2 8
              have ct9b : w2.cell? ⟨V.heap.size + 1, 9, none⟩ = some (.string x9) := blk_cell ht2 9
              have ct10b : w2.cell? ⟨V.heap.size + 1, 10, none⟩ = some (.string x10) := blk_cell ht2 10
              have hrf := blk_frozen HR5.out
              obtain ⟨q0, q1, q2, q3, q4, q5, q6, q7, q8, q9, q10, q11, q12, q13, q14, q15⟩ := zero_cells HR5.out
              clear hn2 ht2
              go_wp2
              have hrg := HRG.out
              have hwz : wrap32 zz = zz := by unfold wrap32; omega
              rw [HRES.out]
              refine bodyPost_ret (results_cell_tmp rfl _ _ w.heap.size 29 (cmdV ⟨n0, n1, x0, ⟨wrap32 zz, x3, x4, x5, x6, x7, x8, x9, x10⟩, ⟨true, x2, n3⟩, x1⟩) (0, 0) _ rfl (blk_alloc (store_all z29 ⟨n0, n1, x0, ⟨wrap32 zz, x3, x4, x5, x6, x7, x8, x9, x10⟩, ⟨true, x2, n3⟩, x1⟩ HR5.out) _) rfl rfl (by kernel_rfl)) rfl ⟨?_, below_alloc (below_all ⟨n0, n1, x0, ⟨wrap32 zz, x3, x4, x5, x6, x7, x8, x9, x10⟩, ⟨true, x2, n3⟩, x1⟩ hb5 (Nat.le_refl _)) _⟩
              rw [hwz]
              rfl

theorem rl_calls (s : ByteArray) (r1 : S29) (r2 : Bool) (w : World) (h : figureheadref25_ReadLine.g s = some (r1, r2)) :
    Calls Tryd.prog 9 #[.string s] w fun e w' => e = .returned (.tuple #[.agg (cmdV r1), .bool r2]) ∧ Below w.heap.size w w' := by
  unfold figureheadref25_ReadLine.g at h
  split at h
  rotate_left
  · cases h
  rename_i hs
  by_cases hw : (Q.splitC 32 (U.L s)).length = 16 ∧ ((Q.splitC 32 (U.L s)).getD 4 [] = [48] ∨ (Q.splitC 32 (U.L s)).getD 4 [] = [49])
  · obtain ⟨h16, h4⟩ := hw
    cases hp : Q.readW (Q.splitC 32 (U.L s)) with
    | none =>
      rw [hp] at h
      obtain ⟨rfl, rfl⟩ := Prod.mk.inj (Option.some.inj h)
      rcases h4 with h4 | h4
      · exact rl_fail48 s w hs hp h16 h4
      · exact rl_fail49 s w hs hp h16 h4
    | some c =>
      rw [hp] at h
      obtain ⟨rfl, rfl⟩ := Prod.mk.inj (Option.some.inj h)
      rcases h4 with h4 | h4
      · exact rl_ok48 s w hs c hp h16 h4
      · exact rl_ok49 s w hs c hp h16 h4
  · have hp : Q.readW (Q.splitC 32 (U.L s)) = none := by unfold Q.readW; rw [if_neg hw]
    rw [hp] at h
    obtain ⟨rfl, rfl⟩ := Prod.mk.inj (Option.some.inj h)
    exact rl_bad s w hs hw
def figureheadref25_ReadLine.f (s : ByteArray) : Option (Int × Int × ByteArray × Int × ByteArray × ByteArray × ByteArray × ByteArray × ByteArray × ByteArray × ByteArray × ByteArray × Bool × ByteArray × Int × ByteArray × Bool) := (figureheadref25_ReadLine.g s).map fun x => flatC x.1 x.2
theorem figureheadref25_ReadLine.calls (s : ByteArray) (r0 : Int) (r1 : Int) (r2 : ByteArray) (r3 : Int) (r4 : ByteArray) (r5 : ByteArray) (r6 : ByteArray) (r7 : ByteArray) (r8 : ByteArray) (r9 : ByteArray) (r10 : ByteArray) (r11 : ByteArray) (r12 : Bool) (r13 : ByteArray) (r14 : Int) (r15 : ByteArray) (r16 : Bool) (w : World) (h : figureheadref25_ReadLine.f s = some (r0, r1, r2, r3, r4, r5, r6, r7, r8, r9, r10, r11, r12, r13, r14, r15, r16)) :
    Calls Tryd.prog 9 #[.string s] w fun e w' => e = .returned (.tuple #[.agg #[.int .i64 r0, .int .i64 r1, .string r2, .int .i32 r3, .string r4, .string r5, .string r6, .string r7, .string r8, .string r9, .string r10, .string r11, .bool r12, .string r13, .int .i64 r14, .string r15], .bool r16]) ∧ Below w.heap.size w w' := by
  unfold figureheadref25_ReadLine.f at h
  obtain ⟨⟨y, b⟩, h1, h2⟩ := Option.map_eq_some_iff.1 h
  have := rl_calls s y b w h1
  simp only [flatC, Prod.mk.injEq] at h2
  obtain ⟨rfl, rfl, rfl, rfl, rfl, rfl, rfl, rfl, rfl, rfl, rfl, rfl, rfl, rfl, rfl, rfl, rfl⟩ := h2
  exact this
end Go.Proofs.YtegndehoiodjeaaDoor.Print
