/- The reader of package number: its block, what stays beside it; the exponent. -/
import Derived.Test.YtgobcejjefgkcaaDoorNa
namespace Go.Proofs.YtgobcejjefgkcaaDoor.Print
open Go.RowKit Go.Proofs.YtgobcejjefgkcaaDoorW.PrintWords Go.Proofs.YtgobcejjefgkcaaDoorW.PrintLast Go.Proofs.YtgobcejjefgkcaaDoorW.PrintMore
set_option linter.unusedVariables false
set_option linter.unusedSimpArgs false

/-- What a reader says. -/
structure RD where
  (wh fr ex : ByteArray) (pt sc : Bool) (mi ma mf xf ms xs pr se : Int) (inc : ByteArray) (ps : Bool) (me : Int) (pp : Bool)
def rdV (r : RD) : Array Value := #[.string r.wh, .string r.fr, .string r.ex, .bool r.pt, .bool r.sc, .slice none 0 0, .slice none 0 0, .bool false, .slice none 0 0, .slice none 0 0, .int .i64 r.mi, .int .i64 r.ma, .int .i64 r.mf, .int .i64 r.xf, .int .i64 r.ms, .int .i64 r.xs, .int .i64 r.pr, .int .i64 r.se, .string r.inc, .bool r.ps, .int .i64 r.me, .bool r.pp, .int .i64 0, .int .i32 0, .int .i64 0]
abbrev IsRd (w : World) (b : Nat) (r : RD) : Prop := w.heap[b]? = some (.cells (rdV r) 38 (0, 0))
/-- All but one block stays. -/
structure Mid (b : Nat) (w w' : World) : Prop where
  os : w'.os = w.os
  tape : w'.tape = w.tape
  output : w'.output = w.output
  size : w.heap.size ≤ w'.heap.size
  block : ∀ k, k < w.heap.size → k ≠ b → w'.heap[k]? = w.heap[k]?
theorem Mid.refl (b : Nat) (w : World) : Mid b w w := ⟨rfl, rfl, rfl, Nat.le_refl _, fun _ _ _ => rfl⟩
theorem Mid.of {b : Nat} {w w' : World} (h : Below w.heap.size w w') : Mid b w w' := ⟨h.os, h.tape, h.output, h.size, fun k hk _ => h.block k hk⟩
theorem Mid.trans {b : Nat} {u v w : World} (h : Mid b u v) (k : Mid b v w) : Mid b u w :=
  ⟨k.os.trans h.os, k.tape.trans h.tape, k.output.trans h.output, Nat.le_trans h.size k.size, fun j hj hn => (k.block j (Nat.lt_of_lt_of_le hj h.size) hn).trans (h.block j hj hn)⟩
theorem Mid.step {b : Nat} {u v w : World} (h : Mid b u v) (k : Below v.heap.size v w) : Mid b u w := h.trans (Mid.of k)
theorem Mid.set {b : Nat} {u v : World} (h : Mid b u v) (i : Nat) (x : Value) : Mid b u (v.setCell ⟨b, i, none⟩ x) :=
  ⟨h.os, h.tape, h.output, (Below.setCell (B := b) (p := ⟨b, i, none⟩) (Below.refl b v) (Nat.le_refl _) x).size |> Nat.le_trans h.size, fun k hk hn => (Below.heap_setCell v ⟨b, i, none⟩ x k hn).trans (h.block k hk hn)⟩
theorem Mid.drew {b : Nat} {u v : World} (h : Mid b u v) : Mid b u v.drew := ⟨h.os, h.tape, h.output, h.size, h.block⟩
theorem Mid.drewN {b : Nat} {u v : World} (h : Mid b u v) (n : Nat) : Mid b u (v.drewN n) := h.step (Drawn0.below ⟨⟨n, rfl⟩⟩)
theorem Mid.below {b : Nat} {u v : World} (h : Mid b u v) (hb : b ≤ u.heap.size) : Below b u v := ⟨h.os, h.tape, h.output, h.size, fun k hk => h.block k (Nat.lt_of_lt_of_le hk hb) (by omega)⟩
theorem Mid.lenVar {b : Nat} {u v : World} (h : Mid b u v) (hT : Tabs u) (hb : 0 ≠ b) : Tabs v := by
  obtain ⟨m, hm⟩ := hT
  exact ⟨m, (World.cell?_of_block (w := u) (a := ⟨_, 0, none⟩) (h.block _ (World.block_lt_of_cell? u _ hm) hb)).trans hm⟩
/-- A row of numbers that was made: its block. -/
theorem row_ints {w : World} {base : Nat} {v : Value} {xs : List Int} (h : Kd.R (Kd.int .i64) 3 w base (fun _ => True) v xs) (hn : xs ≠ []) :
    ∃ (g c : Nat) (cur : Array Value), v = .slice (some ⟨g, 0, none⟩) xs.length c ∧ base ≤ g ∧ w.heap[g]? = some (.cells cur 3 (0, 0)) ∧ ∀ (j : Nat) (x : Int), xs[j]? = some x → cur[j]? = some (Value.int .i64 x) := by
  obtain ⟨A, c, rfl⟩ := Kd.R_slice h
  obtain ⟨_, hc, hC⟩ := Kd.R_reads' h
  obtain ⟨_, inner, ho, hr⟩ := h
  have hpos := List.length_pos_iff.2 hn
  rcases ho.2 with ⟨h1, _⟩ | ⟨g, cap, cur, h1, hg, hh, r⟩
  · obtain ⟨_, _, hc2⟩ := hC
    obtain ⟨ad, rfl, _⟩ := hc2 hpos
    simp at h1
  · simp at h1
    obtain ⟨rfl, _, _⟩ := h1
    refine ⟨g, c, cur, rfl, hg, hh, fun j x hx => ?_⟩
    obtain ⟨_, _, hc2⟩ := hC
    obtain ⟨ad, he, hc3⟩ := hc2 hpos
    obtain rfl := Option.some.inj he
    obtain ⟨cs, _, hK, hcell⟩ := hc3 j x hx
    have hK2 : cs = [.int .i64 x] := hK
    subst hK2
    have := hcell 0 _ rfl
    rw [show (Kd.int .i64).sz = 1 from rfl, Nat.mul_one, Nat.add_zero, Addr.add_lit, Nat.zero_add, blk_cell hh] at this
    exact this
theorem idx_ints (n c i bk : Nat) (W : World) (hi : i < n) :
    (Instr.indexAt 48 (.slice (some ⟨bk, 0, none⟩) n c) (.int .i64 (i : Int))).run Tryd.prog W = .ok (.pointer (some ⟨bk, i, none⟩)) W := by
  have ht : Tryd.prog.underlying 48 = some (.slice (Tryd.prog.elem 48)) := by kernel_rfl
  have he : Tryd.prog.elem 48 = 3 := by kernel_rfl
  have hz : ∀ w, (Go.sizeOf 3).run Tryd.prog w = .ok 1 w := fun w => by kernel_rfl
  rw [run_indexAt_slice _ _ _ _ _ _ _ ht, he, if_pos ⟨by omega, by omega⟩, hz]
  simp [Result.andThen, Addr.add_lit]
theorem rd_cells {w : World} {b : Nat} {r : RD} (h : IsRd w b r) : w.cell? ⟨b, 0, none⟩ = some (.string r.wh) ∧ w.cell? ⟨b, 1, none⟩ = some (.string r.fr) ∧ w.cell? ⟨b, 2, none⟩ = some (.string r.ex) ∧ w.cell? ⟨b, 3, none⟩ = some (.bool r.pt) ∧ w.cell? ⟨b, 4, none⟩ = some (.bool r.sc) :=
  ⟨blk_cell h 0, blk_cell h 1, blk_cell h 2, blk_cell h 3, blk_cell h 4⟩
theorem blk_put3 {w : World} {g : Nat} {t : TypeId} {cs cs2 : Array Value} (h : w.heap[g]? = some (.cells cs t (0, 0))) (i : Nat) (u : Value) (e : cs.setIfInBounds i u = cs2) : (w.setCell ⟨g, i, none⟩ u).heap[g]? = some (.cells cs2 t (0, 0)) := e ▸ blk_set h i u

/-! ### the spans that are asked for, on bytes -/
def oneFV (k : Nat) (c : UInt8) : FV := ⟨50, #[.pointer (some ⟨k, 0, none⟩)], N.pOne c⟩
def digFV : FV := ⟨37, #[], N.pDig⟩
theorem trim_one (c : UInt8) (hc : c.toNat < 128) (s : ByteArray) : N.L (Lib.trimLeftF (N.pOne c) s) = (N.L s).dropWhile (fun b => b == c) := N.trimF_is _ _ s (N.one_sort c hc s)
theorem trim_dig (s : ByteArray) : N.L (Lib.trimLeftF N.pDig s) = (N.L s).dropWhile N.dig := N.trimF_is _ _ s (N.dig_sort s)
theorem trim_len (p : Nat → Bool) (q : UInt8 → Bool) (s : ByteArray) (h : N.L (Lib.trimLeftF p s) = (N.L s).dropWhile q) : ((s.size : Int) - (Lib.trimLeftF p s).size) = (N.sp q (N.L s) : Int) := by
  have h1 := congrArg List.length h
  have h2 := N.sp_drop q (N.L s)
  rw [N.L_len] at h1 h2
  omega

theorem spansGo_len : ∀ (fs : List FV) (s : ByteArray), (spansGo fs s).1.length = fs.length
  | [], _ => rfl
  | x :: r, s => by simp [spansGo, spansGo_len r]
theorem spansB_calls (fs : List FV) (s : ByteArray) (bk : Nat) (w : World) (hs : s.size ≤ 1000000000) (hn : fs.length ≤ 3) (hne : fs ≠ []) (hbk : w.heap[bk]? = some (.cells (fs.map fvV).toArray 58 (0, 0)))
    (he : ∀ x ∈ fs, ∀ args w, (callFunc x.g args).run Tryd.prog w = .ok (.enter x.g args) w) (hp : ∀ x ∈ fs, PredGrows Tryd.prog x.g x.lb x.p w) :
    Calls Tryd.prog 34 #[.string s, .slice (some ⟨bk, 0, none⟩) fs.length fs.length] w fun e w' =>
      ∃ (g c : Nat) (cur : Array Value), e = .returned (.tuple #[.slice (some ⟨g, 0, none⟩) fs.length c, .bool (N.L (spansGo fs s).2).isEmpty]) ∧ w'.heap[g]? = some (.cells cur 3 (0, 0)) ∧ (∀ (j : Nat) (x : Int), (spansGo fs s).1[j]? = some x → cur[j]? = some (.int .i64 x)) ∧ w.heap.size ≤ g ∧ Below w.heap.size w w' :=
  (spans_calls fs s bk w hs hn hbk he hp).mono fun e w' ⟨v, h1, h2, h3⟩ => by
    obtain ⟨g, c, cur, rfl, k1, k2, k3⟩ := row_ints h2 (fun e => hne (List.length_eq_zero_iff.1 (by rw [← spansGo_len fs s, e]; rfl)))
    rw [spansGo_len] at h1
    exact ⟨g, c, cur, by rw [h1, Lib.toList_data], k2, k3, k1, h3⟩
theorem far_cell {W : World} {k : Nat} {v : Value} (h : W.cell? ⟨k, 0, none⟩ = some v) (o : Obj) : (W.alloc o).cell? ⟨k, 0, none⟩ = some v :=
  (((Below.refl _ W).alloc (Nat.le_refl _) o).cell (p := ⟨k, 0, none⟩) (World.block_lt_of_cell? W _ h)).trans h
theorem one_FVpred {k : Nat} {c : UInt8} {W : World} (h : W.cell? ⟨k, 0, none⟩ = some (.int .i32 (c.toNat : Int))) : PredGrows Tryd.prog (oneFV k c).g (oneFV k c).lb (oneFV k c).p W := one_pred c k W h

/-- One sort. -/
theorem spans_one (c : UInt8) (hc : c.toNat < 128) (x : ByteArray) (k : Nat) (W : World) (hk : W.cell? ⟨k, 0, none⟩ = some (.int .i32 (c.toNat : Int))) (hx : x.size ≤ 1000000000) :
    Calls Tryd.prog 34 #[.string x, .slice (some ⟨W.heap.size, 0, none⟩) 1 1] (W.alloc (.cells #[.func (.func 50) #[] #[.pointer (some ⟨k, 0, none⟩)]] 58)) fun e w' =>
      ∃ (g cap : Nat) (cur : Array Value), e = .returned (.tuple #[.slice (some ⟨g, 0, none⟩) 1 cap, .bool ((N.L x).dropWhile (fun b => b == c)).isEmpty]) ∧ w'.heap[g]? = some (.cells cur 3 (0, 0)) ∧ cur[0]? = some (.int .i64 (N.sp (fun b => b == c) (N.L x) : Int)) ∧ W.heap.size ≤ g ∧ Below W.heap.size W w' := by
  refine (spansB_calls [oneFV k c] x W.heap.size _ hx (by simp) (by simp) (heap_alloc_new W _) (fun y hy => ?_) (fun y hy => ?_)).mono ?_
  · obtain rfl := List.mem_singleton.1 hy
    exact one_enters
  · obtain rfl := List.mem_singleton.1 hy
    exact one_FVpred (far_cell hk _)
  · rintro e w' ⟨g, cap, cur, rfl, h1, h2, h3, h4⟩
    have hb := (Below.refl W.heap.size W).alloc (Nat.le_refl _) (.cells #[.func (.func 50) #[] #[.pointer (some ⟨k, 0, none⟩)]] 58)
    have e2 : N.L (spansGo [oneFV k c] x).2 = (N.L x).dropWhile (fun b => b == c) := trim_one c hc x
    refine ⟨g, cap, cur, by rw [e2]; rfl, h1, ?_, Nat.le_trans hb.size h3, below_step hb h4⟩
    rw [h2 0 _ rfl]
    show some (Value.int .i64 ((x.size : Int) - (Lib.trimLeftF (N.pOne c) x).size)) = _
    rw [trim_len _ _ x (trim_one c hc x)]
/-- # and digits. -/
theorem spans_hd (x : ByteArray) (k : Nat) (W : World) (hk : W.cell? ⟨k, 0, none⟩ = some (.int .i32 35)) (hx : x.size ≤ 1000000000) :
    Calls Tryd.prog 34 #[.string x, .slice (some ⟨W.heap.size, 0, none⟩) 2 2] (W.alloc (.cells #[.func (.func 50) #[] #[.pointer (some ⟨k, 0, none⟩)], .func (.func 37) #[] #[]] 58)) fun e w' =>
      ∃ (g cap : Nat) (cur : Array Value), e = .returned (.tuple #[.slice (some ⟨g, 0, none⟩) 2 cap, .bool (((N.L x).dropWhile N.isH).dropWhile N.dig).isEmpty]) ∧ w'.heap[g]? = some (.cells cur 3 (0, 0)) ∧ cur[0]? = some (.int .i64 (N.sp N.isH (N.L x) : Int)) ∧ cur[1]? = some (.int .i64 (N.sp N.dig ((N.L x).dropWhile N.isH) : Int)) ∧ W.heap.size ≤ g ∧ Below W.heap.size W w' := by
  refine (spansB_calls [oneFV k 35, digFV] x W.heap.size _ hx (by simp) (by simp) (heap_alloc_new W _) (fun y hy => ?_) (fun y hy => ?_)).mono ?_
  · rcases List.mem_cons.1 hy with rfl | hy
    · exact one_enters
    · obtain rfl := List.mem_singleton.1 hy
      exact digit_enters
  · rcases List.mem_cons.1 hy with rfl | hy
    · exact one_FVpred (far_cell hk _)
    · obtain rfl := List.mem_singleton.1 hy
      exact digit_pred _
  · rintro e w' ⟨g, cap, cur, rfl, h1, h2, h3, h4⟩
    have hb := (Below.refl W.heap.size W).alloc (Nat.le_refl _) (.cells #[.func (.func 50) #[] #[.pointer (some ⟨k, 0, none⟩)], .func (.func 37) #[] #[]] 58)
    have t1 : N.L (Lib.trimLeftF (N.pOne 35) x) = (N.L x).dropWhile N.isH := trim_one 35 (by decide) x
    have t2 := trim_dig (Lib.trimLeftF (N.pOne 35) x)
    have l1 := trim_len _ N.isH x t1
    have l2 := trim_len _ _ _ t2
    rw [t1] at t2 l2
    refine ⟨g, cap, cur, ?_, h1, (h2 0 _ rfl).trans ?_, (h2 1 _ rfl).trans ?_, Nat.le_trans hb.size h3, below_step hb h4⟩
    · show Ending.returned (.tuple #[.slice (some ⟨g, 0, none⟩) 2 cap, .bool (N.L (Lib.trimLeftF N.pDig (Lib.trimLeftF (N.pOne 35) x))).isEmpty]) = _
      rw [t2]
    · show some (Value.int .i64 ((x.size : Int) - (Lib.trimLeftF (N.pOne 35) x).size)) = _
      rw [l1]
    · show some (Value.int .i64 (((Lib.trimLeftF (N.pOne 35) x).size : Int) - (Lib.trimLeftF N.pDig (Lib.trimLeftF (N.pOne 35) x)).size)) = _
      rw [l2]
/-- Digits and #. -/
theorem spans_dh (x : ByteArray) (k : Nat) (W : World) (hk : W.cell? ⟨k, 0, none⟩ = some (.int .i32 35)) (hx : x.size ≤ 1000000000) :
    Calls Tryd.prog 34 #[.string x, .slice (some ⟨W.heap.size, 0, none⟩) 2 2] (W.alloc (.cells #[.func (.func 37) #[] #[], .func (.func 50) #[] #[.pointer (some ⟨k, 0, none⟩)]] 58)) fun e w' =>
      ∃ (g cap : Nat) (cur : Array Value), e = .returned (.tuple #[.slice (some ⟨g, 0, none⟩) 2 cap, .bool (((N.L x).dropWhile N.dig).dropWhile N.isH).isEmpty]) ∧ w'.heap[g]? = some (.cells cur 3 (0, 0)) ∧ cur[0]? = some (.int .i64 (N.sp N.dig (N.L x) : Int)) ∧ cur[1]? = some (.int .i64 (N.sp N.isH ((N.L x).dropWhile N.dig) : Int)) ∧ W.heap.size ≤ g ∧ Below W.heap.size W w' := by
  refine (spansB_calls [digFV, oneFV k 35] x W.heap.size _ hx (by simp) (by simp) (heap_alloc_new W _) (fun y hy => ?_) (fun y hy => ?_)).mono ?_
  · rcases List.mem_cons.1 hy with rfl | hy
    · exact digit_enters
    · obtain rfl := List.mem_singleton.1 hy
      exact one_enters
  · rcases List.mem_cons.1 hy with rfl | hy
    · exact digit_pred _
    · obtain rfl := List.mem_singleton.1 hy
      exact one_FVpred (far_cell hk _)
  · rintro e w' ⟨g, cap, cur, rfl, h1, h2, h3, h4⟩
    have hb := (Below.refl W.heap.size W).alloc (Nat.le_refl _) (.cells #[.func (.func 37) #[] #[], .func (.func 50) #[] #[.pointer (some ⟨k, 0, none⟩)]] 58)
    have t1 := trim_dig x
    have t2 : N.L (Lib.trimLeftF (N.pOne 35) (Lib.trimLeftF N.pDig x)) = (N.L (Lib.trimLeftF N.pDig x)).dropWhile N.isH := trim_one 35 (by decide) _
    have l1 := trim_len _ _ x t1
    have l2 := trim_len _ N.isH _ t2
    rw [t1] at t2 l2
    refine ⟨g, cap, cur, ?_, h1, (h2 0 _ rfl).trans ?_, (h2 1 _ rfl).trans ?_, Nat.le_trans hb.size h3, below_step hb h4⟩
    · show Ending.returned (.tuple #[.slice (some ⟨g, 0, none⟩) 2 cap, .bool (N.L (Lib.trimLeftF (N.pOne 35) (Lib.trimLeftF N.pDig x))).isEmpty]) = _
      rw [t2]
    · show some (Value.int .i64 ((x.size : Int) - (Lib.trimLeftF N.pDig x).size)) = _
      rw [l1]
    · show some (Value.int .i64 (((Lib.trimLeftF N.pDig x).size : Int) - (Lib.trimLeftF (N.pOne 35) (Lib.trimLeftF N.pDig x)).size)) = _
      rw [l2]
/-- #, @ and #. -/
theorem spans_hah (x : ByteArray) (k1 k2 k3 : Nat) (W : World) (hk1 : W.cell? ⟨k1, 0, none⟩ = some (.int .i32 35)) (hk2 : W.cell? ⟨k2, 0, none⟩ = some (.int .i32 64)) (hk3 : W.cell? ⟨k3, 0, none⟩ = some (.int .i32 35)) (hx : x.size ≤ 1000000000) :
    Calls Tryd.prog 34 #[.string x, .slice (some ⟨W.heap.size, 0, none⟩) 3 3] (W.alloc (.cells #[.func (.func 50) #[] #[.pointer (some ⟨k1, 0, none⟩)], .func (.func 50) #[] #[.pointer (some ⟨k2, 0, none⟩)], .func (.func 50) #[] #[.pointer (some ⟨k3, 0, none⟩)]] 58)) fun e w' =>
      ∃ (g cap : Nat) (cur : Array Value), e = .returned (.tuple #[.slice (some ⟨g, 0, none⟩) 3 cap, .bool ((((N.L x).dropWhile N.isH).dropWhile N.isA).dropWhile N.isH).isEmpty]) ∧ w'.heap[g]? = some (.cells cur 3 (0, 0)) ∧ cur[1]? = some (.int .i64 (N.sp N.isA ((N.L x).dropWhile N.isH) : Int)) ∧ cur[2]? = some (.int .i64 (N.sp N.isH (((N.L x).dropWhile N.isH).dropWhile N.isA) : Int)) ∧ W.heap.size ≤ g ∧ Below W.heap.size W w' := by
  refine (spansB_calls [oneFV k1 35, oneFV k2 64, oneFV k3 35] x W.heap.size _ hx (by simp) (by simp) (heap_alloc_new W _) (fun y hy => ?_) (fun y hy => ?_)).mono ?_
  · rcases List.mem_cons.1 hy with rfl | hy
    · exact one_enters
    rcases List.mem_cons.1 hy with rfl | hy
    · exact one_enters
    · obtain rfl := List.mem_singleton.1 hy
      exact one_enters
  · rcases List.mem_cons.1 hy with rfl | hy
    · exact one_FVpred (far_cell hk1 _)
    rcases List.mem_cons.1 hy with rfl | hy
    · exact one_FVpred (far_cell hk2 _)
    · obtain rfl := List.mem_singleton.1 hy
      exact one_FVpred (far_cell hk3 _)
  · rintro e w' ⟨g, cap, cur, rfl, h1, h2, h3, h4⟩
    have hb := (Below.refl W.heap.size W).alloc (Nat.le_refl _) (.cells #[.func (.func 50) #[] #[.pointer (some ⟨k1, 0, none⟩)], .func (.func 50) #[] #[.pointer (some ⟨k2, 0, none⟩)], .func (.func 50) #[] #[.pointer (some ⟨k3, 0, none⟩)]] 58)
    obtain ⟨x1, hx1⟩ : ∃ x1, x1 = Lib.trimLeftF (N.pOne 35) x := ⟨_, rfl⟩
    obtain ⟨x2, hx2⟩ : ∃ x2, x2 = Lib.trimLeftF (N.pOne 64) x1 := ⟨_, rfl⟩
    have t1 : N.L x1 = (N.L x).dropWhile N.isH := by rw [hx1]; exact trim_one 35 (by decide) x
    have t2 : N.L x2 = (N.L x1).dropWhile N.isA := by rw [hx2]; exact trim_one 64 (by decide) x1
    have t3 : N.L (Lib.trimLeftF (N.pOne 35) x2) = (N.L x2).dropWhile N.isH := trim_one 35 (by decide) x2
    have l2 := trim_len (N.pOne 64) N.isA x1 (by rw [← hx2]; exact t2)
    have l3 := trim_len _ N.isH x2 t3
    rw [← hx2] at l2
    have hgo : spansGo [oneFV k1 35, oneFV k2 64, oneFV k3 35] x = ([(x.size : Int) - x1.size, (x1.size : Int) - x2.size, (x2.size : Int) - (Lib.trimLeftF (N.pOne 35) x2).size], Lib.trimLeftF (N.pOne 35) x2) := by
      rw [hx2, hx1]; rfl
    rw [hgo] at h2 ⊢
    rw [t2, t1] at t3
    rw [t1] at l2
    rw [t2, t1] at l3
    refine ⟨g, cap, cur, ?_, h1, (h2 1 _ rfl).trans (by rw [l2]), (h2 2 _ rfl).trans (by rw [l3]), Nat.le_trans hb.size h3, below_step hb h4⟩
    show Ending.returned (.tuple #[.slice (some ⟨g, 0, none⟩) 3 cap, .bool (N.L (Lib.trimLeftF (N.pOne 35) x2)).isEmpty]) = _
    rw [t3]
end Go.Proofs.YtgobcejjefgkcaaDoor.Print
