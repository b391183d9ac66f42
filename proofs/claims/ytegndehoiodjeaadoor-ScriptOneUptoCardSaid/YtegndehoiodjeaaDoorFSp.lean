/- Package script's Print: what it answers, as a plain function, and its contract. -/
import Derived.Test.YtegndehoiodjeaaDoorFSl
import Derived.Lib.OthersKept
namespace Go.Proofs.YtegndehoiodjeaaDoor.Print
open Go.RowKit Go.Proofs.YtegndehoiodjeaaDoorW.PrintWords Go.Proofs.YtegndehoiodjeaaDoorW.PrintLast Go.Proofs.YtegndehoiodjeaaDoorW.PrintMore
set_option linter.unusedVariables false
set_option linter.unusedSimpArgs false

/-- A command whose line is written. -/
def goodC (x : S29) : Prop := Q.inR x.f0 ∧ Q.inR x.f1 ∧ (-2147483648 ≤ x.f3.f0 ∧ x.f3.f0 ≤ 2147483647) ∧ Q.inR x.f4.f2 ∧ ∀ s ∈ tsB x, s.size ≤ 1000000000
instance goodC_dec (x : S29) : Decidable (goodC x) := by unfold goodC Q.inR; infer_instance
def script_Print.f (l : List S29) : Option ByteArray := if (∀ x ∈ l, goodC x) ∧ (Q.textL (l.map cmOf)).length ≤ 100000000000 then some ⟨(Q.textL (l.map cmOf)).toArray⟩ else none
theorem textL_snoc (l : List Q.Cm) (c : Q.Cm) : Q.textL (l ++ [c]) = Q.textL l ++ (Q.lineL c ++ [10]) := by simp [Q.textL]
theorem textL_take (l : List Q.Cm) (i : Nat) : (Q.textL (l.take i)).length ≤ (Q.textL l).length := by
  have ap : ∀ a b : List Q.Cm, Q.textL (a ++ b) = Q.textL a ++ Q.textL b := fun a b => by simp [Q.textL]
  have e : Q.textL l = Q.textL (l.take i) ++ Q.textL (l.drop i) := by rw [← ap, List.take_append_drop]
  rw [e, List.length_append]
  omega
/-- A row of commands that is read: where it lies. -/
theorem cmds_at {w : World} {A : Option Addr} {l : List S29} (h : Kd.C k29 w A l.length l) (hl : l ≠ []) :
    ∃ bk o, A = some ⟨bk, o, none⟩ ∧ bk < w.heap.size ∧ ∀ (j : Nat) x, l[j]? = some x → ∀ (q : Nat) v, (cmdV x)[q]? = some v → w.cell? ⟨bk, o + j * 16 + q, none⟩ = some v := by
  obtain ⟨_, _, hc⟩ := h
  obtain ⟨⟨bk, o, sp⟩, rfl, hc2⟩ := hc (List.length_pos_iff.2 hl)
  have one : ∀ (j : Nat) x, l[j]? = some x → ∀ (q : Nat) v, (cmdV x)[q]? = some v → w.cell? (Addr.add ⟨bk, o, sp⟩ (j * 16 + q)) = some v := fun j x hx q v hq => by
    obtain ⟨c, _, hK, hcell⟩ := hc2 j x hx
    obtain rfl := k29_open hK
    exact hcell q v (by rw [← hq]; simp [cmdV])
  obtain ⟨x, r, rfl⟩ := List.exists_cons_of_ne_nil hl
  have h0 := one 0 x rfl 0 _ rfl
  rw [show (Addr.add ⟨bk, o, sp⟩ (0 * 16 + 0)) = ⟨bk, o, sp⟩ by simp [Addr.add]] at h0
  obtain rfl := no_spot h0
  exact ⟨bk, o, rfl, World.block_lt_of_cell? w _ h0, fun j x hx q v hq => by have := one j x hx q v hq; rw [Addr.add_lit, ← Nat.add_assoc] at this; exact this⟩
theorem z_cmd : ∀ w, (Go.sizeOf 29).run Tryd.prog w = .ok 16 w := fun w => by kernel_rfl
theorem idx_cmds (n c i bk o : Nat) (A : Option Addr) (W : World) (hA : A = some ⟨bk, o, none⟩) (hi : i < n) :
    (Instr.indexAt 22 (.slice A n c) (.int .i64 (i : Int))).run Tryd.prog W = .ok (.pointer (some ⟨bk, o + i * 16, none⟩)) W := by
  subst hA
  have ht : Tryd.prog.underlying 22 = some (.slice (Tryd.prog.elem 22)) := by kernel_rfl
  have he : Tryd.prog.elem 22 = 29 := by kernel_rfl
  rw [run_indexAt_slice _ _ _ _ _ _ _ ht, he, if_pos ⟨by omega, by omega⟩, z_cmd]
  simp [Result.andThen, Addr.add_lit]
theorem bF_belowP {T e : TypeId} {B b : Nat} {bs : List Value} {W W' : World} (h : Lib.IsBuilderF T e B b bs W) (hb : Below W.heap.size W W') : Lib.IsBuilderF T e B b bs W' := by
  have one : ∀ {p : Value}, Lib.BuilderAtF T e B b p bs W → Lib.BuilderAtF T e B b p bs W' := fun h => by
    have hlt := h.lt
    obtain ⟨hB, v, hv, hown, hne⟩ := h
    exact ⟨hB, v, (hb.block b hlt).trans hv, hown.kept (row := none) ⟨hb.os, hb.tape, hb.output, hb.size, fun k hk _ => hb.block k hk⟩ (Classical.em _), hne⟩
  exact h.elim (fun x => Or.inl (one x)) (fun x => Or.inr (one x))

set_option maxHeartbeats 8000000 in
set_option maxRecDepth 1000000 in
theorem script_Print.calls (A0 : Option Addr) (c0 : Nat) (l0 : List S29) (r : ByteArray) (w : World) (hr0 : Kd.C k29 w A0 l0.length l0) (hc0 : l0.length ≤ c0) (hT : Tabs w) (h : script_Print.f l0 = some r) :
    Calls Tryd.prog 11 #[.slice A0 l0.length c0] w fun e w' => e = .returned (.string r) ∧ Below w.heap.size w w' := by
  unfold script_Print.f at h
  split at h
  rotate_left
  · cases h
  rename_i hgc
  have hr := Option.some.inj h
  have HG := Lib.hid hgc.1
  have HL := Lib.hid hgc.2
  have HR := Lib.hid hr
  have HT := Lib.hid hT
  have hlm : l0.length ≤ 9223372036854775807 := hr0.2.1
  clear h hgc hr hT
  go_enter Tryd.func11, Tryd.ntmps11
  go_wp2
  go_loopw [8] (fun v8 wr => ∃ (i : Nat) (acc : List UInt8), v8 = .int .i64 i ∧ i ≤ l0.length ∧ Lib.IsBuilderF 52 5 w.heap.size w.heap.size (Lib.byteCells acc) wr ∧ Below w.heap.size w wr ∧ Hid (acc = Q.textL ((l0.take i).map cmOf))) (fun v8 wr => l0.length - (RowKit.intOf v8).toNat)
  case atStart => exact ⟨0, [], rfl, Nat.zero_le _, Lib.IsBuilderF.of (Lib.fresh_isBuilder 52 5 w), (Below.refl _ w).alloc (Nat.le_refl _) _, Lib.hid rfl⟩
  case round =>
    obtain ⟨i, acc, rfl, hil, hI, hbw, hacc⟩ := hrel
    have hsz := hbw.size
    by_cases hi : i < l0.length
    · obtain ⟨x, hx⟩ : ∃ x, l0[i]? = some x := ⟨_, List.getElem?_eq_getElem hi⟩
      obtain ⟨bk, o, hA1, hbk, hcells⟩ := cmds_at hr0 (fun e => by rw [e] at hi; simp at hi)
      have hia := fun W => idx_cmds l0.length c0 i bk o A0 W hA1 hi
      have hc := hcells i x hx
      obtain ⟨g1, g2, g3, g4, g5⟩ := HG.out x (List.mem_of_getElem? hx)
      have hl := fun W hT => line_calls x W hT g1 g2 g3 g4 g5
      have hwl := words_len x g1 g2 g3 g4 g5
      have hz : (lineB x).size ≤ 100000000001 := by unfold lineB; rw [U.size_mk, List.length_append]; simp; omega
      have hal : acc.length ≤ 100000000000 := by
        rw [hacc.out, List.map_take]
        exact Nat.le_trans (textL_take _ _) HL.out
      have HX := Lib.hid hx
      clear hx hcells hA1 g1 g2 g3 g4 g5 hwl
      obtain ⟨lb, hlb⟩ : ∃ lb, lb = lineB x := ⟨_, rfl⟩
      rw [← hlb] at hl hz
      have HLB := Lib.hid hlb
      clear hlb
      obtain ⟨y, hy⟩ : ∃ y, y = x := ⟨_, rfl⟩
      obtain ⟨k, m, p, ⟨z, s1, s2, s3, s4, s5, s6, s7, s8⟩, ⟨neg, dg, ex⟩, tt⟩ := x
      have hc0 : wr.cell? ⟨bk, o + i * 16, none⟩ = some (.int .i64 k) := (hbw.cell (p := ⟨bk, o + i * 16, none⟩) hbk).trans (hc 0 _ rfl)
      have hc1 : wr.cell? ⟨bk, o + i * 16 + 1, none⟩ = some (.int .i64 m) := (hbw.cell (p := ⟨bk, o + i * 16 + 1, none⟩) hbk).trans (hc 1 _ rfl)
      have hc2 : wr.cell? ⟨bk, o + i * 16 + 2, none⟩ = some (.string p) := (hbw.cell (p := ⟨bk, o + i * 16 + 2, none⟩) hbk).trans (hc 2 _ rfl)
      have hc3 : wr.cell? ⟨bk, o + i * 16 + 3, none⟩ = some (.int .i32 z) := (hbw.cell (p := ⟨bk, o + i * 16 + 3, none⟩) hbk).trans (hc 3 _ rfl)
      have hc4 : wr.cell? ⟨bk, o + i * 16 + 4, none⟩ = some (.string s1) := (hbw.cell (p := ⟨bk, o + i * 16 + 4, none⟩) hbk).trans (hc 4 _ rfl)
      have hc5 : wr.cell? ⟨bk, o + i * 16 + 5, none⟩ = some (.string s2) := (hbw.cell (p := ⟨bk, o + i * 16 + 5, none⟩) hbk).trans (hc 5 _ rfl)
      have hc6 : wr.cell? ⟨bk, o + i * 16 + 6, none⟩ = some (.string s3) := (hbw.cell (p := ⟨bk, o + i * 16 + 6, none⟩) hbk).trans (hc 6 _ rfl)
      have hc7 : wr.cell? ⟨bk, o + i * 16 + 7, none⟩ = some (.string s4) := (hbw.cell (p := ⟨bk, o + i * 16 + 7, none⟩) hbk).trans (hc 7 _ rfl)
      have hc8 : wr.cell? ⟨bk, o + i * 16 + 8, none⟩ = some (.string s5) := (hbw.cell (p := ⟨bk, o + i * 16 + 8, none⟩) hbk).trans (hc 8 _ rfl)
      have hc9 : wr.cell? ⟨bk, o + i * 16 + 9, none⟩ = some (.string s6) := (hbw.cell (p := ⟨bk, o + i * 16 + 9, none⟩) hbk).trans (hc 9 _ rfl)
      have hc10 : wr.cell? ⟨bk, o + i * 16 + 10, none⟩ = some (.string s7) := (hbw.cell (p := ⟨bk, o + i * 16 + 10, none⟩) hbk).trans (hc 10 _ rfl)
      have hc11 : wr.cell? ⟨bk, o + i * 16 + 11, none⟩ = some (.string s8) := (hbw.cell (p := ⟨bk, o + i * 16 + 11, none⟩) hbk).trans (hc 11 _ rfl)
      have hc12 : wr.cell? ⟨bk, o + i * 16 + 12, none⟩ = some (.bool neg) := (hbw.cell (p := ⟨bk, o + i * 16 + 12, none⟩) hbk).trans (hc 12 _ rfl)
      have hc13 : wr.cell? ⟨bk, o + i * 16 + 13, none⟩ = some (.string dg) := (hbw.cell (p := ⟨bk, o + i * 16 + 13, none⟩) hbk).trans (hc 13 _ rfl)
      have hc14 : wr.cell? ⟨bk, o + i * 16 + 14, none⟩ = some (.int .i64 ex) := (hbw.cell (p := ⟨bk, o + i * 16 + 14, none⟩) hbk).trans (hc 14 _ rfl)
      have hc15 : wr.cell? ⟨bk, o + i * 16 + 15, none⟩ = some (.string tt) := (hbw.cell (p := ⟨bk, o + i * 16 + 15, none⟩) hbk).trans (hc 15 _ rfl)
      unfold cmdV at hl
      simp only at hl
      rw [← hy] at HX HLB
      have HLN := Lib.hid hl
      clear hc hl hy
      go_wp2_with (first
        | (go_at_call 21; (with_reducible refine (HLN.out _ (Tabs_below HT.out (below_alloc hbw _))).mono ?_); rintro e W1 ⟨rfl, b1⟩; have hI1 := bF_belowP (hI.alloc _) b1; have hbw1 := below_step (below_alloc hbw _) b1; have hsz1 := hbw1.size)
        | (go_at_call 20; (with_reducible refine (Tryd.Builder_WriteString_k w.heap.size w.heap.size _ lb _ hI1 (by rw [Lib.byteCells_length]; omega) hsz1).mono ?_); rintro e W3 ⟨rfl, h3, b3, k3⟩))
      go_roundw
      case rel =>
        refine ⟨i + 1, acc ++ U.L lb, by go_num, by omega, ?_, hbw1.trans b3, Lib.hid ?_⟩
        · rw [Lib.byteCells_append]
          exact Or.inr h3
        · rw [List.take_add_one, HX.out, List.map_append, hacc.out, HLB.out]
          show _ = Q.textL (_ ++ [cmOf y])
          rw [textL_snoc]
          unfold lineB
          rw [U.L_mk]
      case measure => simp [RowKit.intOf]; omega
    · have hie : i = l0.length := by omega
      subst hie
      go_wp2_with (go_at_call 22; refine (Tryd.Builder_String_any_k w.heap.size w.heap.size acc _ hI hsz).mono ?_)
      rintro e W1 ⟨rfl, _, b1, _⟩
      go_wp2
      go_ret
      refine ⟨?_, hbw.trans b1⟩
      rw [← HR.out, hacc.out, List.take_length]
      rfl
end Go.Proofs.YtegndehoiodjeaaDoor.Print
