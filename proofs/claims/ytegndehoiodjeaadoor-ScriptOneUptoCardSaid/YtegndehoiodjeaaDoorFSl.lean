/- Package script's line: what it answers, as a plain function, and its contract (under way). -/
import Derived.Test.YtegndehoiodjeaaDoorFCu
import Derived.Test.YtegndehoiodjeaaDoorU
import Derived.Test.YtegndehoiodjeaaDoorQ
import Derived.Test.YtegndehoiodjeaaDoorPrint1
import Derived.StillTailTactics
import Derived.BigRegion
import Derived.Deep.RegionLaw
import Derived.Deep.RegionHeld3
import Derived.Test.YtegndehoiodjeaaDoorPH
import Derived.Test.YtegndehoiodjeaaDoorF0join
import Derived.Lib.Hide
namespace Go.Proofs.YtegndehoiodjeaaDoor.Print
open Go.RowKit Go.Proofs.YtegndehoiodjeaaDoorW.PrintWords Go.Proofs.YtegndehoiodjeaaDoorW.PrintLast Go.Proofs.YtegndehoiodjeaaDoorW.PrintMore
set_option linter.unusedVariables false
set_option linter.unusedSimpArgs false

/-- Blocks that are laid behind turn nothing that stood. -/
theorem below_laid (w : World) (k : Nat) (os : Array Obj) : Below w.heap.size w (Sort.grow (w.drewN k) os) := by
  refine ⟨rfl, rfl, rfl, ?_, fun i hi => ?_⟩
  · have e : (Sort.grow (w.drewN k) os).heap = w.heap ++ os := rfl
    rw [e, Array.size_append]
    exact Nat.le_add_right _ _
  · have e : (Sort.grow (w.drewN k) os).heap = w.heap ++ os := rfl
    rw [e]
    exact Array.getElem?_append_left hi
theorem heap_keepsS {w W : World} (h : Below w.heap.size w W) {k : Nat} {o : Obj} (hk : w.heap[k]? = some o) : W.heap[k]? = some o := (h.block k (Array.getElem?_eq_some_iff.1 hk).1).trans hk
theorem itoa_calls (n : Int) (h0 : -9223372036854775808 ≤ n) (h1 : n ≤ 9223372036854775807) (w : World) (hT : Tabs w) : Calls Tryd.prog 31 #[.int .i64 n] w fun e w' => e = .returned (.string ⟨(Lib.itoa n).toArray⟩) ∧ Below w.heap.size w w' :=
  (Tryd.strconv_Itoa n h0 h1 w hT.2.1).mono fun e w' ⟨he, k, os, hw⟩ => ⟨he, by rw [hw]; exact below_laid w k os⟩
/-- The pointers to a command's texts. -/
def placesV (B : Nat) : Array Value := #[.pointer (some ⟨B, 2, none⟩), .pointer (some ⟨B, 15, none⟩), .pointer (some ⟨B, 13, none⟩), .pointer (some ⟨B, 4, none⟩), .pointer (some ⟨B, 5, none⟩), .pointer (some ⟨B, 6, none⟩), .pointer (some ⟨B, 7, none⟩), .pointer (some ⟨B, 8, none⟩), .pointer (some ⟨B, 9, none⟩), .pointer (some ⟨B, 10, none⟩), .pointer (some ⟨B, 11, none⟩)]
set_option maxHeartbeats 8000000 in
set_option maxRecDepth 1000000 in
theorem texts_calls (B : Nat) (w : World) : Calls Tryd.prog 27 #[.pointer (some ⟨B, 0, none⟩)] w fun e w' => e = .returned (.slice (some ⟨w.heap.size, 0, none⟩) 11 11) ∧ w'.heap[w.heap.size]? = some (.cells (placesV B) 66 (0, 0)) ∧ Below w.heap.size w w' := by
  go_enter Tryd.func27, Tryd.ntmps27
  go_wp2
  go_still_tail 34, (by kernel_rfl)
  change wpList _ _ _ _ _ w.drew
  obtain ⟨w2, hw2⟩ : ∃ w2, w2 = w.drew := ⟨_, rfl⟩
  rw [← hw2]
  have hs : w2.heap.size = w.heap.size := by rw [hw2]; rfl
  have hb : Below w.heap.size w w2 := by rw [hw2]; exact (Below.refl _ w).drew
  have HW := Lib.hid hw2
  clear hw2
  go_wp2
  go_ret
  exact ⟨rfl, by rw [← hs]; exact heap_alloc_new w2 _, hb.alloc (by rw [hs]; exact Nat.le_refl _) _⟩
/-- A command as plain data. -/
def cmOf (x : S29) : Q.Cm := ⟨x.f0, x.f1, x.f3.f0, x.f4.f2, x.f4.f0, [U.L x.f2, U.L x.f5, U.L x.f4.f1, U.L x.f3.f1, U.L x.f3.f2, U.L x.f3.f3, U.L x.f3.f4, U.L x.f3.f5, U.L x.f3.f6, U.L x.f3.f7, U.L x.f3.f8]⟩
def lineB (x : S29) : ByteArray := ⟨(Q.lineL (cmOf x) ++ [10]).toArray⟩
def cmdV (x : S29) : Array Value := #[.int .i64 x.f0, .int .i64 x.f1, .string x.f2, .int .i32 x.f3.f0, .string x.f3.f1, .string x.f3.f2, .string x.f3.f3, .string x.f3.f4, .string x.f3.f5, .string x.f3.f6, .string x.f3.f7, .string x.f3.f8, .bool x.f4.f0, .string x.f4.f1, .int .i64 x.f4.f2, .string x.f5]
/-- What is kept of the world while the numbers are written. -/
def HeldC (w0 : World) (B : Nat) (x : S29) (w : World) : Prop := Tabs w ∧ Below w0.heap.size w0 w ∧ w.heap[B]? = some (.cells (cmdV x) 29)
theorem itoa_held (w0 : World) (B : Nat) (x : S29) (n : Int) (h0 : -9223372036854775808 ≤ n) (h1 : n ≤ 9223372036854775807) (w : World) (hH : Hid (HeldC w0 B x w)) : Calls Tryd.prog 31 #[.int .i64 n] w fun e w' => e = .returned (.string ⟨(Lib.itoa n).toArray⟩) ∧ Hid (HeldC w0 B x w') ∧ w'.cell? ⟨B, 0, none⟩ = some (.int .i64 x.f0) ∧ w'.cell? ⟨B, 1, none⟩ = some (.int .i64 x.f1) ∧ w'.cell? ⟨B, 3, none⟩ = some (.int .i32 x.f3.f0) ∧ w'.cell? ⟨B, 14, none⟩ = some (.int .i64 x.f4.f2) := by
  obtain ⟨hT, hb, hB⟩ := hH.out
  refine (itoa_calls n h0 h1 w hT).mono fun e w' ⟨he, b⟩ => ?_
  have hB' : w'.heap[B]? = some (.cells (cmdV x) 29) := heap_keepsS b hB
  exact ⟨he, Lib.hid ⟨Tabs_below hT b, below_step hb b, hB'⟩, (blk_cell hB' 0).trans rfl, (blk_cell hB' 1).trans rfl, (blk_cell hB' 3).trans rfl, (blk_cell hB' 14).trans rfl⟩
theorem R_row {α : Type} {enc : α → Value} {h1 : ∀ x, (enc x).oneCell' = true} (W : World) (e : TypeId) (l : List α) (hm : l.length ≤ maxLen) : (Kd.scalar enc h1).R e (W.alloc (.cells (l.map enc).toArray e)) W.heap.size (fun _ => True) (.slice (some ⟨W.heap.size, 0, none⟩) l.length l.length) l :=
  Kd.R_of_own (by
    have := World.ownsRow_lit (base := W.heap.size) (e := e) (size := 1) W (l.map enc).toArray l.length (Nat.le_refl _) hm (by simp)
    simpa [encs] using this) (fun _ _ => trivial)
theorem R_staysS {α : Type} {d : Kd α} {e base : Nat} {W W' : World} {v : Value} {xs : List α} (h : d.R e W base (fun _ => True) v xs) (hb : Below W.heap.size W W') : d.R e W' base (fun _ => True) v xs :=
  Kd.R_mono (Kd.R_move (Kd.R_bound h) (fun k hk => hb.block k hk.2.2.1)) (fun _ _ => trivial)
/-- A row of strings is no row of pointers. -/
theorem row_neS {base g : Nat} {W : World} {ok : Nat → Prop} {v : Value} {xs : List ByteArray} {cs : Array Value} {f : Nat × Nat} (h : Kd.string.R 9 W base ok v xs) (hg : W.heap[g]? = some (.cells cs 66 f)) : some g ≠ v.ownBlock := by
  intro e
  obtain ⟨_, _, _, q, hq, cells, hc⟩ := (Kd.R_bound h).1 g e.symm
  rw [hg] at hc
  have hq2 : q = 9 := by simpa [Kd.string, Kd.scalar] using hq
  subst hq2
  injection hc with hc
  injection hc with _ h2 _
  exact absurd h2 (by decide)
/-- The texts, in their order. -/
def tsB (x : S29) : List ByteArray := [x.f2, x.f5, x.f4.f1, x.f3.f1, x.f3.f2, x.f3.f3, x.f3.f4, x.f3.f5, x.f3.f6, x.f3.f7, x.f3.f8]
def textB (s : ByteArray) : ByteArray := ⟨#[120]⟩ ++ ⟨(Q.hexL (U.L s)).toArray⟩
theorem place_at (B : Nat) (x : S29) (i : Nat) (hi : i < 11) : ∃ o s, (tsB x)[i]? = some s ∧ (placesV B)[i]? = some (.pointer (some ⟨B, o, none⟩)) ∧ (cmdV x)[o]? = some (.string s) := by
  match i, hi with
  | 0, _ => exact ⟨2, _, rfl, rfl, rfl⟩
  | 1, _ => exact ⟨15, _, rfl, rfl, rfl⟩
  | 2, _ => exact ⟨13, _, rfl, rfl, rfl⟩
  | 3, _ => exact ⟨4, _, rfl, rfl, rfl⟩
  | 4, _ => exact ⟨5, _, rfl, rfl, rfl⟩
  | 5, _ => exact ⟨6, _, rfl, rfl, rfl⟩
  | 6, _ => exact ⟨7, _, rfl, rfl, rfl⟩
  | 7, _ => exact ⟨8, _, rfl, rfl, rfl⟩
  | 8, _ => exact ⟨9, _, rfl, rfl, rfl⟩
  | 9, _ => exact ⟨10, _, rfl, rfl, rfl⟩
  | 10, _ => exact ⟨11, _, rfl, rfl, rfl⟩
theorem z_ptr : ∀ w, (Go.sizeOf 66).run Tryd.prog w = .ok 1 w := fun w => by kernel_rfl
theorem idx_ptrs (n c i bk : Nat) (W : World) (hi : i < n) :
    (Instr.indexAt 63 (.slice (some ⟨bk, 0, none⟩) n c) (.int .i64 (i : Int))).run Tryd.prog W = .ok (.pointer (some ⟨bk, i, none⟩)) W := by
  have ht : Tryd.prog.underlying 63 = some (.slice (Tryd.prog.elem 63)) := by kernel_rfl
  have he : Tryd.prog.elem 63 = 66 := by kernel_rfl
  rw [run_indexAt_slice _ _ _ _ _ _ _ ht, he, if_pos ⟨by omega, by omega⟩, z_ptr]
  simp [Result.andThen, Addr.add_lit]
/-- A line's words, as texts. -/
def wordsB (x : S29) : List ByteArray := [⟨(Lib.itoa x.f0).toArray⟩, ⟨(Lib.itoa x.f1).toArray⟩, ⟨(Lib.itoa x.f3.f0).toArray⟩, ⟨(Lib.itoa x.f4.f2).toArray⟩, ⟨(Q.bitL x.f4.f0).toArray⟩] ++ (tsB x).map textB
theorem words_line (x : S29) : (wordsB x).map (·.data.toList) = Q.lineW (cmOf x) := by
  have ht : ∀ s : ByteArray, (textB s).data.toList = Q.textW (U.L s) := fun s => by
    show U.L (textB s) = _
    unfold textB Q.textW
    rw [U.L_app, U.L_mk]
    rfl
  unfold wordsB Q.lineW cmOf tsB
  simp only [List.map_append, List.map_cons, List.map_nil, ht]
theorem join_len (c : UInt8) (M : Nat) : ∀ (ws : List (List UInt8)), (∀ w ∈ ws, w.length ≤ M) → (Lib.join ws [c]).length ≤ ws.length * (M + 1)
  | [], _ => by simp [Lib.join_nil]
  | [w], h => by
    rw [Lib.join_one]
    have := h w (by simp)
    simp
    omega
  | w :: v :: t, h => by
    have e : Lib.join (w :: v :: t) [c] = w ++ c :: Lib.join (v :: t) [c] := by
      rw [Lib.join_cons, Lib.join_cons]
      simp [Lib.joinTail]
    have h1 := h w (by simp)
    have h2 := join_len c M (v :: t) (fun x hx => h x (by simp [hx]))
    rw [e, List.length_append, List.length_cons, List.length_cons, Nat.succ_mul]
    omega
theorem words_len (x : S29) (hk : Q.inR x.f0) (hm : Q.inR x.f1) (hz : -2147483648 ≤ x.f3.f0 ∧ x.f3.f0 ≤ 2147483647) (he : Q.inR x.f4.f2) (hts : ∀ s ∈ tsB x, s.size ≤ 1000000000) : (Q.lineL (cmOf x)).length ≤ 100000000000 := by
  have hd : ∀ n : Int, Q.inR n → (Lib.itoa n).length ≤ 2000000001 := fun n hn => by
    obtain ⟨h0, h1⟩ := hn
    unfold Lib.itoa
    split
    · have := Q.dec_len 18 n.natAbs (by omega)
      simp only [List.length_cons]
      omega
    · have := Q.dec_len 18 n.toNat (by omega)
      omega
  have hw : ∀ w ∈ Q.lineW (cmOf x), w.length ≤ 2000000001 := fun w hw => by
    rw [← words_line] at hw
    obtain ⟨b, hb, rfl⟩ := List.mem_map.1 hw
    unfold wordsB at hb
    rcases List.mem_append.1 hb with hb | hb
    · simp only [List.mem_cons, List.not_mem_nil, or_false] at hb
      rcases hb with rfl | rfl | rfl | rfl | rfl
      · simpa using hd _ hk
      · simpa using hd _ hm
      · simpa using hd _ ⟨by omega, by omega⟩
      · simpa using hd _ he
      · cases x.f4.f0 <;> simp [Q.bitL]
    · obtain ⟨s, hs, rfl⟩ := List.mem_map.1 hb
      have := hts s hs
      show (U.L (textB s)).length ≤ _
      unfold textB
      rw [U.L_app, U.L_mk, List.length_append, Q.hexL_len, U.L_len]
      show (U.L ⟨#[120]⟩).length + _ ≤ _
      rw [U.L_len]
      show 1 + _ ≤ _
      omega
  have h1 := join_len 32 2000000001 (Q.lineW (cmOf x)) hw
  have hl : (Q.lineW (cmOf x)).length = 16 := by rw [← words_line]; rfl
  rw [hl] at h1
  unfold Q.lineL
  omega
theorem words_join (x : S29) (h : (Q.lineL (cmOf x)).length ≤ 100000000000) : strings_Join.f (wordsB x) ⟨#[32]⟩ = some ⟨(Q.lineL (cmOf x)).toArray⟩ := by
  unfold strings_Join.f
  rw [words_line]
  rw [if_pos ⟨by show 16 ≤ _; omega, by show (Q.lineL (cmOf x)).length ≤ _; omega⟩]
  rfl
theorem held_drew {w0 w : World} {B : Nat} {x : S29} (h : Hid (HeldC w0 B x w)) : Hid (HeldC w0 B x w.drew) := Lib.hid ⟨Tabs_drew h.out.1, h.out.2.1.drew, h.out.2.2⟩
set_option maxHeartbeats 8000000 in
set_option maxRecDepth 1000000 in
theorem line_calls (x : S29) (w : World) (hT : Tabs w) (hk : Q.inR x.f0) (hm : Q.inR x.f1) (hz : -2147483648 ≤ x.f3.f0 ∧ x.f3.f0 ≤ 2147483647) (he : Q.inR x.f4.f2) (hts : ∀ s ∈ tsB x, s.size ≤ 1000000000) : Calls Tryd.prog 21 #[.agg (cmdV x)] w fun e w' => e = .returned (.string (lineB x)) ∧ Below w.heap.size w w' := by
  obtain ⟨k, m, p, ⟨z, s1, s2, s3, s4, s5, s6, s7, s8⟩, ⟨neg, dg, ex⟩, tt⟩ := x
  obtain ⟨x, hx⟩ : ∃ x : S29, x = ⟨k, m, p, ⟨z, s1, s2, s3, s4, s5, s6, s7, s8⟩, ⟨neg, dg, ex⟩, tt⟩ := ⟨_, rfl⟩
  simp only at hk hm hz he
  obtain ⟨W1, hW1⟩ : ∃ W1, W1 = w.alloc (.cells #[.int .i64 k, .int .i64 m, .string p, .int .i32 z, .string s1, .string s2, .string s3, .string s4, .string s5, .string s6, .string s7, .string s8, .bool neg, .string dg, .int .i64 ex, .string tt] 29) := ⟨_, rfl⟩
  have hB : W1.heap[w.heap.size]? = some (.cells (cmdV x) 29) := by rw [hW1, hx]; exact heap_alloc_new _ _
  have hb1 : Below w.heap.size w W1 := by rw [hW1]; exact (Below.refl _ w).alloc (Nat.le_refl _) _
  have HH : Hid (HeldC w w.heap.size x W1) := Lib.hid ⟨Tabs_below hT hb1, hb1, hB⟩
  have HCL : Hid (W1.cell? ⟨w.heap.size, 0, none⟩ = some (.int .i64 k) ∧ W1.cell? ⟨w.heap.size, 1, none⟩ = some (.int .i64 m) ∧ W1.cell? ⟨w.heap.size, 3, none⟩ = some (.int .i32 z) ∧ W1.cell? ⟨w.heap.size, 14, none⟩ = some (.int .i64 ex)) := Lib.hid (by
    subst hx
    exact ⟨(blk_cell hB 0).trans rfl, (blk_cell hB 1).trans rfl, (blk_cell hB 3).trans rfl, (blk_cell hB 14).trans rfl⟩)
  have hit : ∀ (n : Int) (W : World), -9223372036854775808 ≤ n → n ≤ 9223372036854775807 → Hid (HeldC w w.heap.size x W) → Calls Tryd.prog 31 #[.int .i64 n] W fun e w' => e = .returned (.string ⟨(Lib.itoa n).toArray⟩) ∧ Hid (HeldC w w.heap.size x w') ∧ w'.cell? ⟨w.heap.size, 0, none⟩ = some (.int .i64 k) ∧ w'.cell? ⟨w.heap.size, 1, none⟩ = some (.int .i64 m) ∧ w'.cell? ⟨w.heap.size, 3, none⟩ = some (.int .i32 z) ∧ w'.cell? ⟨w.heap.size, 14, none⟩ = some (.int .i64 ex) := fun n W h0 h1 hh => by
    have := itoa_held w w.heap.size x n h0 h1 W hh
    subst hx
    exact this
  rw [← hx] at hts
  have HWL : Hid ((Q.lineL (cmOf x)).length ≤ 100000000000) := Lib.hid (words_len x (by rw [hx]; exact hk) (by rw [hx]; exact hm) (by rw [hx]; exact hz) (by rw [hx]; exact he) hts)
  have HTS := Lib.hid hts
  clear hts
  have HX := Lib.hid hx
  have HW1 := Lib.hid hW1
  have HIT := Lib.hid hit
  have hk1 := hk.1
  have hk2 := hk.2
  have hm1 := hm.1
  have hm2 := hm.2
  have he1 := he.1
  have he2 := he.2
  obtain ⟨hz1, hz2⟩ := hz
  have hwz : IntKind.i64.wrap z = z := by rw [IntKind.wrap_i64]; omega
  have hw1 : -9223372036854775808 ≤ IntKind.i64.wrap z := by rw [hwz]; omega
  have hw2 : IntKind.i64.wrap z ≤ 9223372036854775807 := by rw [hwz]; omega
  have HWZ := Lib.hid hwz
  clear hwz
  rw [← hx]
  unfold cmdV
  rw [hx]
  clear hW1 hT hb1 hB hk hm he hit hx
  cases neg with
  | true =>
    go_enter Tryd.func21, Tryd.ntmps21
    go_wp2
    rw [← HW1.out]
    have hcl := HCL.out
    obtain ⟨c0, c1, c3, c14⟩ := hcl
    go_region_held3 (fun w' => w'.cell? ⟨w.heap.size, 0, none⟩ = some (.int .i64 k) ∧ w'.cell? ⟨w.heap.size, 1, none⟩ = some (.int .i64 m) ∧ w'.cell? ⟨w.heap.size, 3, none⟩ = some (.int .i32 z) ∧ w'.cell? ⟨w.heap.size, 14, none⟩ = some (.int .i64 ex)) (first | go_keep | exact ⟨by assumption, by assumption, by assumption, by assumption⟩)
      (first | (go_at_call 31; (with_reducible refine (HIT.out _ _ (by first | assumption | omega) (by first | assumption | omega) (by first | assumption | exact held_drew HH)).mono ?_); rintro e W4 ⟨rfl, hh4, d0, d1, d3, d14⟩))
    simp only [HWZ.out]
    clear hw1 hw2
    obtain ⟨W5, hW5⟩ : ∃ W5, W5 = W4.alloc (.cells #[.string ⟨(Lib.itoa k).toArray⟩, .string ⟨(Lib.itoa m).toArray⟩, .string ⟨(Lib.itoa z).toArray⟩, .string ⟨(Lib.itoa ex).toArray⟩, .string ⟨#[49]⟩] 9) := ⟨_, rfl⟩
    rw [← hW5]
    have hR5 : Kd.string.R 9 W5 W4.heap.size (fun _ => True) (.slice (some ⟨W4.heap.size, 0, none⟩) 5 5) [⟨(Lib.itoa k).toArray⟩, ⟨(Lib.itoa m).toArray⟩, ⟨(Lib.itoa z).toArray⟩, ⟨(Lib.itoa ex).toArray⟩, ⟨#[49]⟩] := by rw [hW5]; exact R_row W4 9 [_, _, _, _, _] (by unfold maxLen; simp)
    have hb5 : Below W4.heap.size W4 W5 := by rw [hW5]; exact (Below.refl _ _).alloc (Nat.le_refl _) _
    have hs5 : W4.heap.size < W5.heap.size := by rw [hW5]; simp
    obtain ⟨ps, hps⟩ : ∃ ps : List ByteArray, ps = [⟨(Lib.itoa k).toArray⟩, ⟨(Lib.itoa m).toArray⟩, ⟨(Lib.itoa z).toArray⟩, ⟨(Lib.itoa ex).toArray⟩, ⟨#[49]⟩] := ⟨_, rfl⟩
    rw [← hps] at hR5
    have hpl : ps.length = 5 := by rw [hps]; rfl
    have HPS := Lib.hid hps
    clear hW5 hps d0 d1 d3 d14 c0 c1 c3 c14
    go_wp2_with (go_at_call 27; (with_reducible refine (texts_calls w.heap.size _).mono ?_); rintro e W6 ⟨rfl, hrow, b6⟩)
    have hR6 := R_staysS hR5 b6
    have hb6 : Below W4.heap.size W4 W6 := hb5.trans (b6.mono (Nat.le_of_lt hs5))
    have hbox4 := hh4.out.2.2
    have hlB := blk_lt hbox4
    clear hR5 hb5 b6
    go_loopw [4, 29] (fun v4 v29 wx => ∃ i : Nat, v29 = .int .i64 i ∧ i ≤ 11 ∧ Kd.string.R 9 wx W4.heap.size (fun _ => True) v4 (ps ++ ((tsB x).take i).map textB) ∧ Below W4.heap.size W4 wx ∧ wx.heap[W5.heap.size]? = some (.cells (placesV w.heap.size) 66 (0, 0))) (fun v4 v29 wx => 11 - (RowKit.intOf v29).toNat)
    case atStart => exact ⟨0, rfl, by omega, by simpa using hR6, hb6, hrow⟩
    case round =>
      obtain ⟨i, rfl, hi11, hR, hb, hpr⟩ := hrel
      have hsz := hb.size
      by_cases hi : i < 11
      · obtain ⟨o, s, hs1, hs2, hs3⟩ := place_at w.heap.size x i hi
        have hp := (blk_cell hpr i).trans hs2
        have hc := (hb.cell (p := ⟨w.heap.size, o, none⟩) hlB).trans ((blk_cell hbox4 o).trans hs3)
        have hia := fun W => idx_ptrs 11 11 i W5.heap.size W hi
        have hss := HTS.out s (List.mem_of_getElem? hs1)
        obtain ⟨kh, hkh⟩ := Pure.hex_ev s (by omega)
        have HX2 := Lib.hid (hkh kh (Nat.le_refl _))
        have hzz : (⟨(Q.hexL (U.L s)).toArray⟩ : ByteArray).size = 2 * s.size := by rw [U.size_mk, Q.hexL_len, U.L_len]
        have HS1 := Lib.hid hs1
        have htl : (ps ++ ((tsB x).take i).map textB).length ≤ 16 := by rw [List.length_append, List.length_map, List.length_take, hpl]; omega
        clear hs1 hs2 hs3 hkh
        go_wp2_with (first
          | (go_at_call 12; (with_reducible refine (script_Hex.calls kh s _ _ HX2.out).mono ?_); rintro e W7 ⟨rfl, b7⟩; have hb7 : Below W4.heap.size W4 W7 := hb.trans (b7.mono hsz); have hR7 := R_staysS hR b7; have hpr7 := heap_keepsS b7 hpr; have hsz7 := hb7.size; have hne7 := row_neS hR7 hpr7; have hl7 := blk_lt hpr7)
          | (((with_reducible refine gate_builtin (b := .append) (xs := #[.tmp 33, .tmp 39]) rfl ?_); at_builtin; refine Kd.R_append Kd.string (w0 := W4) W4.heap.size rfl (.tmp 33) (.tmp 39) 40 9 (.string ByteArray.empty) 16 rfl Tryd.underlying40 (by kernel_rfl) rfl (by decide) (by omega) u4 (ps ++ ((tsB x).take i).map textB) (textB s) [.string (textB s)] (fun _ => True) (fun _ => False) rfl rfl ?aP (fun _ hk => hk.elim) ?aF ?aO ?aB ?aS ?aL ?_; (case aP => exact rfl); (case aB => exact hb7); (case aF => exact (fun _ _ => trivial)); (case aO => exact hR7); (case aS => exact hsz7); (case aL => omega); intro v140 w10 ho hbn hg hat; have hpr8 := (hg.block W5.heap.size hl7 hne7).trans hpr7; clear hg hat)))
        go_roundw
        case rel =>
          have hnext : Kd.string.R 9 w10 W4.heap.size (fun _ => True) v140 (ps ++ ((tsB x).take (i + 1)).map textB) := by rw [List.take_add_one, HS1.out, List.map_append, ← List.append_assoc]; exact ho
          have hnum : Value.int .i64 ((i : Int) + 1) = .int .i64 ((i + 1 : Nat) : Int) := by go_num
          first
            | exact ⟨i + 1, hnum, by omega, hnext, hbn, hpr8⟩
            | ((repeat apply Exists.intro); exact ⟨⟨i + 1, hnum, by omega, hnext, hbn, hpr8⟩, rfl⟩)
        case measure => simp [RowKit.intOf]; omega
      · have hie : i = 11 := by omega
        subst hie
        have htk : ps ++ ((tsB x).take 11).map textB = wordsB x := by
          rw [HPS.out, HX.out]
          rfl
        rw [htk] at hR
        obtain ⟨Aj, cj, rfl⟩ := Kd.R_slice hR
        have hrd := Kd.R_reads' hR
        have HJ := Lib.hid (words_join x HWL.out)
        have hzl : (⟨(Q.lineL (cmOf x)).toArray⟩ : ByteArray).size ≤ 100000000000 := by rw [U.size_mk]; exact HWL.out
        have hwl := HWL.out
        have hbW := hh4.out.2.1
        clear htk
        go_wp2_with (go_at_call 32; (with_reducible refine (strings_Join.calls Aj cj (wordsB x) ⟨#[32]⟩ _ _ hrd.2.2 hrd.2.1 HJ.out).mono ?_); rintro e W8 ⟨rfl, b8⟩)
        go_ret
        refine ⟨?_, (hbW.trans (hb.mono hbW.size)).trans (b8.mono (Nat.le_trans hbW.size hsz))⟩
        rw [← HX.out]
        have e : (⟨(Q.lineL (cmOf x)).toArray⟩ : ByteArray) ++ ⟨#[10]⟩ = lineB x := U.L_inj (by unfold lineB; rw [U.L_app, U.L_mk, U.L_mk])
        rw [← e]
        rfl
  | false =>
    go_enter Tryd.func21, Tryd.ntmps21
    go_wp2
    rw [← HW1.out]
    have hcl := HCL.out
    obtain ⟨c0, c1, c3, c14⟩ := hcl
    go_region_held3 (fun w' => w'.cell? ⟨w.heap.size, 0, none⟩ = some (.int .i64 k) ∧ w'.cell? ⟨w.heap.size, 1, none⟩ = some (.int .i64 m) ∧ w'.cell? ⟨w.heap.size, 3, none⟩ = some (.int .i32 z) ∧ w'.cell? ⟨w.heap.size, 14, none⟩ = some (.int .i64 ex)) (first | go_keep | exact ⟨by assumption, by assumption, by assumption, by assumption⟩)
      (first | (go_at_call 31; (with_reducible refine (HIT.out _ _ (by first | assumption | omega) (by first | assumption | omega) (by first | assumption | exact held_drew HH)).mono ?_); rintro e W4 ⟨rfl, hh4, d0, d1, d3, d14⟩))
    simp only [HWZ.out]
    clear hw1 hw2
    obtain ⟨W5, hW5⟩ : ∃ W5, W5 = W4.alloc (.cells #[.string ⟨(Lib.itoa k).toArray⟩, .string ⟨(Lib.itoa m).toArray⟩, .string ⟨(Lib.itoa z).toArray⟩, .string ⟨(Lib.itoa ex).toArray⟩, .string ⟨#[48]⟩] 9) := ⟨_, rfl⟩
    rw [← hW5]
    have hR5 : Kd.string.R 9 W5 W4.heap.size (fun _ => True) (.slice (some ⟨W4.heap.size, 0, none⟩) 5 5) [⟨(Lib.itoa k).toArray⟩, ⟨(Lib.itoa m).toArray⟩, ⟨(Lib.itoa z).toArray⟩, ⟨(Lib.itoa ex).toArray⟩, ⟨#[48]⟩] := by rw [hW5]; exact R_row W4 9 [_, _, _, _, _] (by unfold maxLen; simp)
    have hb5 : Below W4.heap.size W4 W5 := by rw [hW5]; exact (Below.refl _ _).alloc (Nat.le_refl _) _
    have hs5 : W4.heap.size < W5.heap.size := by rw [hW5]; simp
    obtain ⟨ps, hps⟩ : ∃ ps : List ByteArray, ps = [⟨(Lib.itoa k).toArray⟩, ⟨(Lib.itoa m).toArray⟩, ⟨(Lib.itoa z).toArray⟩, ⟨(Lib.itoa ex).toArray⟩, ⟨#[48]⟩] := ⟨_, rfl⟩
    rw [← hps] at hR5
    have hpl : ps.length = 5 := by rw [hps]; rfl
    have HPS := Lib.hid hps
    clear hW5 hps d0 d1 d3 d14 c0 c1 c3 c14
    go_wp2_with (go_at_call 27; (with_reducible refine (texts_calls w.heap.size _).mono ?_); rintro e W6 ⟨rfl, hrow, b6⟩)
    have hR6 := R_staysS hR5 b6
    have hb6 : Below W4.heap.size W4 W6 := hb5.trans (b6.mono (Nat.le_of_lt hs5))
    have hbox4 := hh4.out.2.2
    have hlB := blk_lt hbox4
    clear hR5 hb5 b6
    go_loopw [4, 29] (fun v4 v29 wx => ∃ i : Nat, v29 = .int .i64 i ∧ i ≤ 11 ∧ Kd.string.R 9 wx W4.heap.size (fun _ => True) v4 (ps ++ ((tsB x).take i).map textB) ∧ Below W4.heap.size W4 wx ∧ wx.heap[W5.heap.size]? = some (.cells (placesV w.heap.size) 66 (0, 0))) (fun v4 v29 wx => 11 - (RowKit.intOf v29).toNat)
    case atStart => exact ⟨0, rfl, by omega, by simpa using hR6, hb6, hrow⟩
    case round =>
      obtain ⟨i, rfl, hi11, hR, hb, hpr⟩ := hrel
      have hsz := hb.size
      by_cases hi : i < 11
      · obtain ⟨o, s, hs1, hs2, hs3⟩ := place_at w.heap.size x i hi
        have hp := (blk_cell hpr i).trans hs2
        have hc := (hb.cell (p := ⟨w.heap.size, o, none⟩) hlB).trans ((blk_cell hbox4 o).trans hs3)
        have hia := fun W => idx_ptrs 11 11 i W5.heap.size W hi
        have hss := HTS.out s (List.mem_of_getElem? hs1)
        obtain ⟨kh, hkh⟩ := Pure.hex_ev s (by omega)
        have HX2 := Lib.hid (hkh kh (Nat.le_refl _))
        have hzz : (⟨(Q.hexL (U.L s)).toArray⟩ : ByteArray).size = 2 * s.size := by rw [U.size_mk, Q.hexL_len, U.L_len]
        have HS1 := Lib.hid hs1
        have htl : (ps ++ ((tsB x).take i).map textB).length ≤ 16 := by rw [List.length_append, List.length_map, List.length_take, hpl]; omega
        clear hs1 hs2 hs3 hkh
        go_wp2_with (first
          | (go_at_call 12; (with_reducible refine (script_Hex.calls kh s _ _ HX2.out).mono ?_); rintro e W7 ⟨rfl, b7⟩; have hb7 : Below W4.heap.size W4 W7 := hb.trans (b7.mono hsz); have hR7 := R_staysS hR b7; have hpr7 := heap_keepsS b7 hpr; have hsz7 := hb7.size; have hne7 := row_neS hR7 hpr7; have hl7 := blk_lt hpr7)
          | (((with_reducible refine gate_builtin (b := .append) (xs := #[.tmp 33, .tmp 39]) rfl ?_); at_builtin; refine Kd.R_append Kd.string (w0 := W4) W4.heap.size rfl (.tmp 33) (.tmp 39) 40 9 (.string ByteArray.empty) 16 rfl Tryd.underlying40 (by kernel_rfl) rfl (by decide) (by omega) u4 (ps ++ ((tsB x).take i).map textB) (textB s) [.string (textB s)] (fun _ => True) (fun _ => False) rfl rfl ?aP (fun _ hk => hk.elim) ?aF ?aO ?aB ?aS ?aL ?_; (case aP => exact rfl); (case aB => exact hb7); (case aF => exact (fun _ _ => trivial)); (case aO => exact hR7); (case aS => exact hsz7); (case aL => omega); intro v140 w10 ho hbn hg hat; have hpr8 := (hg.block W5.heap.size hl7 hne7).trans hpr7; clear hg hat)))
        go_roundw
        case rel =>
          have hnext : Kd.string.R 9 w10 W4.heap.size (fun _ => True) v140 (ps ++ ((tsB x).take (i + 1)).map textB) := by rw [List.take_add_one, HS1.out, List.map_append, ← List.append_assoc]; exact ho
          have hnum : Value.int .i64 ((i : Int) + 1) = .int .i64 ((i + 1 : Nat) : Int) := by go_num
          first
            | exact ⟨i + 1, hnum, by omega, hnext, hbn, hpr8⟩
            | ((repeat apply Exists.intro); exact ⟨⟨i + 1, hnum, by omega, hnext, hbn, hpr8⟩, rfl⟩)
        case measure => simp [RowKit.intOf]; omega
      · have hie : i = 11 := by omega
        subst hie
        have htk : ps ++ ((tsB x).take 11).map textB = wordsB x := by
          rw [HPS.out, HX.out]
          rfl
        rw [htk] at hR
        obtain ⟨Aj, cj, rfl⟩ := Kd.R_slice hR
        have hrd := Kd.R_reads' hR
        have HJ := Lib.hid (words_join x HWL.out)
        have hzl : (⟨(Q.lineL (cmOf x)).toArray⟩ : ByteArray).size ≤ 100000000000 := by rw [U.size_mk]; exact HWL.out
        have hwl := HWL.out
        have hbW := hh4.out.2.1
        clear htk
        go_wp2_with (go_at_call 32; (with_reducible refine (strings_Join.calls Aj cj (wordsB x) ⟨#[32]⟩ _ _ hrd.2.2 hrd.2.1 HJ.out).mono ?_); rintro e W8 ⟨rfl, b8⟩)
        go_ret
        refine ⟨?_, (hbW.trans (hb.mono hbW.size)).trans (b8.mono (Nat.le_trans hbW.size hsz))⟩
        rw [← HX.out]
        have e : (⟨(Q.lineL (cmOf x)).toArray⟩ : ByteArray) ++ ⟨#[10]⟩ = lineB x := U.L_inj (by unfold lineB; rw [U.L_app, U.L_mk, U.L_mk])
        rw [← e]
        rfl
end Go.Proofs.YtegndehoiodjeaaDoor.Print
