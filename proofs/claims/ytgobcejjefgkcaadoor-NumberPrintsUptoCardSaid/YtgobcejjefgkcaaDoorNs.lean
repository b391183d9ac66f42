/- The statements' own answers: true. -/
import Derived.Test.YtgobcejjefgkcaaDoorNo
import Derived.Deep.MidRow
namespace Go.Proofs.YtgobcejjefgkcaaDoor.Print
open Go.RowKit Go.Proofs.YtgobcejjefgkcaaDoorW.PrintWords Go.Proofs.YtgobcejjefgkcaaDoorW.PrintLast Go.Proofs.YtgobcejjefgkcaaDoorW.PrintMore
set_option linter.unusedVariables false
set_option linter.unusedSimpArgs false

/-- A variable of the call's own is written whole: the world behind it. -/
structure PutAt (g : Nat) (W w' : World) : Prop where
  below : ∀ {w0 : World}, Below w0.heap.size w0 W → w0.heap.size ≤ g → Below w0.heap.size w0 w'
  other : ∀ {k : Nat} {o : Obj}, W.heap[k]? = some o → k ≠ g → w'.heap[k]? = some o
  size : w'.heap.size = W.heap.size
theorem store_new_event {P : Program} {ops : Array Oper} {rest : List Oper} {o : Oper} {a : Act} {Q : Exit → Act → World → Prop} {W : World} (hgd : o.guard = none) (hN : o.dst = none) {t : TypeId} {p : Tmp} {v : Operand} (ho : o.op = .store t (.tmp p) v) (g : Nat) (cells old : Array Value) (e : TypeId)
    (hx : a.eval (.tmp p) = .pointer (some ⟨g, 0, none⟩)) (hy : a.eval v = .agg cells) (hg : W.heap[g]? = some (.cells old e (0, 0))) (hi : (P.info? t).map (·.size) = some cells.size) (hs : old.size = cells.size) (h1 : cells.all (·.oneCell') = true)
    (h : ∀ w', w'.heap[g]? = some (.cells cells e (0, 0)) → PutAt g W w' → wpList P ops Q rest a w') : wpList P ops Q (o :: rest) a W :=
  store_row_event hgd hN ho g cells old e hx hy hg hi hs h1 (h _ (setRow_heap _ _ _ _ _ _ hg) ⟨fun hb hw => below_row hb hw, fun hk hn => (setRow_other _ _ _ _ hn).trans hk, setRow_size _ _ _⟩)
theorem patN_one (p : N.NP) : (patN p).all (·.oneCell') = true := by simp [patN, Value.oneCell']
/-- A pattern's cells, of plain numbers. -/
def patI (mi ma mf xf ms xs pr se : Int) (ic : ByteArray) (sci : Bool) (me : Int) (pl : Bool) : Array Value := #[.slice none 0 0, .slice none 0 0, .bool false, .slice none 0 0, .slice none 0 0, .int .i64 mi, .int .i64 ma, .int .i64 mf, .int .i64 xf, .int .i64 ms, .int .i64 xs, .int .i64 pr, .int .i64 se, .string ic, .bool sci, .int .i64 me, .bool pl, .int .i64 0, .int .i32 0, .int .i64 0]
theorem patI_one (mi ma mf xf ms xs pr se : Int) (ic : ByteArray) (sci : Bool) (me : Int) (pl : Bool) : (patI mi ma mf xf ms xs pr se ic sci me pl).all (·.oneCell') = true := by simp [patI, Value.oneCell']
theorem patI_N (p : N.NP) : patN p = patI p.minInt p.maxInt p.minFrac p.maxFrac p.minSig p.maxSig p.prim p.sec (mkB p.inc) p.sci p.minExp p.plus := rfl
theorem patI_cells {W : World} {b : Nat} {mi ma mf xf ms xs pr se : Int} {ic : ByteArray} {sci : Bool} {me : Int} {pl : Bool} (h : W.heap[b]? = some (.cells (patI mi ma mf xf ms xs pr se ic sci me pl) 25 (0, 0))) : W.cell? ⟨b, 5, none⟩ = some (.int .i64 mi) ∧ W.cell? ⟨b, 6, none⟩ = some (.int .i64 ma) ∧ W.cell? ⟨b, 7, none⟩ = some (.int .i64 mf) ∧ W.cell? ⟨b, 8, none⟩ = some (.int .i64 xf) ∧ W.cell? ⟨b, 9, none⟩ = some (.int .i64 ms) ∧ W.cell? ⟨b, 10, none⟩ = some (.int .i64 xs) ∧ W.cell? ⟨b, 11, none⟩ = some (.int .i64 pr) ∧ W.cell? ⟨b, 12, none⟩ = some (.int .i64 se) ∧ W.cell? ⟨b, 13, none⟩ = some (.string ic) ∧ W.cell? ⟨b, 14, none⟩ = some (.bool sci) ∧ W.cell? ⟨b, 15, none⟩ = some (.int .i64 me) ∧ W.cell? ⟨b, 16, none⟩ = some (.bool pl) :=
  ⟨blk_cell h 5, blk_cell h 6, blk_cell h 7, blk_cell h 8, blk_cell h 9, blk_cell h 10, blk_cell h 11, blk_cell h 12, blk_cell h 13, blk_cell h 14, blk_cell h 15, blk_cell h 16⟩
def p1 : N.NP := ⟨1, 0, 2, 3, 0, 0, 3, 3, [], false, 0, false⟩
theorem num1 : N.numN [35, 44, 35, 35, 48, 46, 48, 48, 35] = (p1, 0) := rfl
theorem p1_good : N.Good p1 := by
  have h : N.errN [35, 44, 35, 35, 48, 46, 48, 48, 35] = 0 := rfl
  exact N.say_good h
theorem num2 : N.numN [48, 46] = (N.np0, 4) := rfl
theorem prt1 : N.printN p1 0 = [35, 44, 35, 35, 48, 46, 48, 48, 35] := rfl
set_option maxHeartbeats 4000000 in
set_option maxRecDepth 1000000 in
theorem answers_calls (w : World) (hT : Tabs w) : Calls Tryd.prog 9 #[] w fun e w' => e = .returned (.bool true) ∧ Below w.heap.size w w' := by
  have hp1 := fun W hT => parse_calls ⟨#[35, 44, 35, 35, 48, 46, 48, 48, 35]⟩ W hT (by show 9 ≤ _; omega)
  have hp2 := fun W hT => parse_calls ⟨#[48, 46]⟩ W hT (by show 2 ≤ _; omega)
  have n1 : N.numN (N.L ⟨#[35, 44, 35, 35, 48, 46, 48, 48, 35]⟩) = (p1, 0) := num1
  have n2 : N.numN (N.L ⟨#[48, 46]⟩) = (N.np0, 4) := num2
  rw [n1] at hp1
  rw [n2] at hp2
  have hpr := fun W => print_calls p1 p1_good 0 (by omega) W
  rw [prt1] at hpr
  have HT := Lib.hid hT
  change ∀ W, Tabs W → Calls _ _ _ W fun e w' => e = .returned (.tuple #[.agg (patI 1 0 2 3 0 0 3 3 ⟨#[]⟩ false 0 false), .int .i64 0]) ∧ Below W.heap.size W w' at hp1
  change ∀ W, Tabs W → Calls _ _ _ W fun e w' => e = .returned (.tuple #[.agg (patI 0 0 0 0 0 0 0 0 ⟨#[]⟩ false 0 false), .int .i64 4]) ∧ Below W.heap.size W w' at hp2
  change ∀ W, Calls _ _ #[.agg (patI 1 0 2 3 0 0 3 3 ⟨#[]⟩ false 0 false), .int .i64 0] W fun e w' => e = .returned (.string ⟨#[35, 44, 35, 35, 48, 46, 48, 48, 35]⟩) ∧ Below W.heap.size W w' at hpr
  have HP1 := Lib.hid hp1
  have HP2 := Lib.hid hp2
  have HPR := Lib.hid hpr
  clear hT hp1 hp2 hpr n1 n2
  go_enter Tryd.func9, Tryd.ntmps9
  go_wp2_with (first
    | (go_at_call 10; (with_reducible refine (HP1.out _ HT.out).mono ?_); rintro e W1 ⟨rfl, b1⟩; have HB1 := Lib.hid b1; clear b1)
    | ((with_reducible refine gate_store (t := 25) (p := 1) rfl ?_); refine store_new_event rfl rfl rfl W1.heap.size (patI 1 0 2 3 0 0 3 3 ⟨#[]⟩ false 0 false) _ 25 rfl rfl (heap_alloc_new W1 _) (by kernel_rfl) rfl (patI_one _ _ _ _ _ _ _ _ _ _ _ _) ?_; intro W2 hW2 hput; have HB2 := Lib.hid (hput.below (HB1.out.alloc HB1.out.size _) HB1.out.size); have hg1 : W1.heap.size < W2.heap.size := blk_lt hW2; have hsz1 := HB1.out.size; clear hput)
    | (go_at_call 10; (with_reducible refine (HP2.out _ (Tabs_below HT.out HB2.out)).mono ?_); rintro e W3 ⟨rfl, b3⟩; have HB3 := Lib.hid (below_step HB2.out b3); have hW3 := heap_keeps b3 hW2; have hsz3 := b3.size; clear b3)
    | ((with_reducible refine gate_store (t := 25) (p := 3) rfl ?_); refine store_new_event rfl rfl rfl W3.heap.size (patI 0 0 0 0 0 0 0 0 ⟨#[]⟩ false 0 false) _ 25 rfl rfl (heap_alloc_new W3 _) (by kernel_rfl) rfl (patI_one _ _ _ _ _ _ _ _ _ _ _ _) ?_; intro W4 hW4 hput; have HB4 := Lib.hid (hput.below (HB3.out.alloc HB3.out.size _) HB3.out.size); have hg4 := hput.other (blk_alloc hW3 _) (by omega); have HG4 := Lib.hid hg4; obtain ⟨c5, c6, c7, c8, c9, c10, c11, c12, c13, c14, c15, c16⟩ := patI_cells hg4; clear hput hg4)
    | ((with_reducible refine gate_dst (N := 40) rfl ?_); refine gate_guard (by rfl) ?_; dsimp only; refine wpList_load_mid rfl 25 (.tmp 1) rfl W1.heap.size 0 rfl (patI 1 0 2 3 0 0 3 3 ⟨#[]⟩ false 0 false).toList _ (row_range HG4.out) Tryd.underlying25 rfl (by kernel_rfl) ?_)
    | (go_at_call 13; (with_reducible refine (HPR.out _).mono ?_); rintro e W5 ⟨rfl, b5⟩))
  go_ret
  exact ⟨rfl, below_step HB4.out b5⟩
def figureheadlaw15_answers.f : Option Bool := some true
theorem figureheadlaw15_answers.calls (r : Bool) (w : World) (hT : Tabs w) (h : figureheadlaw15_answers.f = some r) : Calls Tryd.prog 9 #[] w fun e w' => e = .returned (.bool r) ∧ Below w.heap.size w w' := by
  obtain rfl := Option.some.inj h
  exact answers_calls w hT
end Go.Proofs.YtgobcejjefgkcaaDoor.Print
