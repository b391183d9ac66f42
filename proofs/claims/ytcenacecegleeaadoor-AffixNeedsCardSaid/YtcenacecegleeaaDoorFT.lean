/- The tables of unicode/utf8, as a world holds them: what the contracts on texts ask of a world, and that it stays. -/
import Derived.Test.YtcenacecegleeaaDoorPrint0
import Derived.Test.YtcenacecegleeaaDoorShelf
import Derived.Test.YtcenacecegleeaaDoorRows
import Derived.Lib.LaidU8T
import Derived.PinnedBridge
import Derived.OpenShut
namespace Go.Proofs.YtcenacecegleeaaDoor.Print
open Go.RowKit Go.Lib Go.Proofs.YtcenacecegleeaaDoorW.PrintWords Go.Proofs.YtcenacecegleeaaDoorW.PrintLast Go.Proofs.YtcenacecegleeaaDoorW.PrintMore
set_option linter.unusedVariables false
set_option linter.unusedSimpArgs false

/-- The signs' table. -/
def signsV : Array Value := #[.int .i64 2, .int .i32 45, .int .i64 3, .int .i32 43, .int .i64 4, .int .i32 37, .int .i64 5, .int .i32 8240, .int .i64 6, .int .i32 164]
def SignsTab (w : World) : Prop := ∃ t fr, w.heap[0]? = some (.cells signsV t fr)
def Tabs (w : World) : Prop := Lib.Utf8Tabs 1 2 w ∧ SignsTab w
theorem Tabs_utf8 {w : World} (h : Tabs w) : Lib.Utf8Tabs 1 2 w := h.1
theorem Tabs_below {w W : World} (h : Tabs w) (hb : Below w.heap.size w W) : Tabs W :=
  ⟨Utf8Tabs_below h.1 hb, by
    obtain ⟨t, fr, hs⟩ := h.2
    exact ⟨t, fr, (hb.block _ (Array.getElem?_eq_some_iff.1 hs).1).trans hs⟩⟩
theorem sign_pair {H : Type} {enc : TypeId × Value → H} {w : World} {base : Nat} {sp : Nat → Bool} {held : Bool} {fuel : Nat} {cs : List Value} {k r : Int} {p : List MemPlace} (h : DataW.trod enc Tryd.prog w base sp held fuel 43 cs = some (.agg [.lit (.int .i64 k), .lit (.int .i32 r)], p)) : cs = [.int .i64 k, .int .i32 r] := by
  obtain ⟨xs, n, _, hx, hl, hlen, hf⟩ := DataW.trod_struct Tryd.underlying43 h
  match xs, hlen with
  | [y0, y1], _ =>
    have hx1 := congrArg Prod.fst hx
    simp only [List.map_cons, List.map_nil, DataW.agg.injEq, List.cons.injEq, and_true] at hx1
    have e0 : DataW.trod enc Tryd.prog w base sp held n 3 ((cs.drop 0).take (Tryd.prog.cellsOf 3)) = some y0 := hf 0 _ rfl
    have e1 : DataW.trod enc Tryd.prog w base sp held n 21 ((cs.drop 1).take (Tryd.prog.cellsOf 21)) = some y1 := hf 1 _ rfl
    rw [show Tryd.prog.cellsOf 3 = 1 by kernel_rfl] at e0
    rw [show Tryd.prog.cellsOf 21 = 1 by kernel_rfl] at e1
    rw [show Tryd.prog.cellsOf 43 = 2 by kernel_rfl] at hl
    obtain ⟨a, ha, hb, _⟩ := DataW.trod_int Tryd.underlying3 e0
    obtain ⟨a2, ha2, hb2, _⟩ := DataW.trod_int Tryd.underlying21 e1
    obtain ⟨u, v, rfl⟩ : ∃ u v, cs = [u, v] := by
      match cs, hl with
      | [u, v], _ => exact ⟨u, v, rfl⟩
    simp only [List.drop_zero, List.take_succ_cons, List.take_zero, List.cons.injEq, and_true] at ha
    simp only [List.drop_succ_cons, List.drop_zero, List.take_succ_cons, List.take_zero, List.cons.injEq, and_true] at ha2
    subst ha; subst ha2
    rw [hb, hb2] at hx1
    simp only [DataW.lit.injEq, Lit.int.injEq, true_and] at hx1
    rw [← hx1.1, ← hx1.2]
theorem signs_cells {w : World} (h : VarReads Tryd.prog w "figurehead/affix.signs" Rows.laid_figurehead_affix_signs) : SignsTab w := by
  obtain ⟨g, t, cs, fuel, p, hg, hty, hvar, hd⟩ := h
  obtain rfl := Option.some.inj ((show Tryd.prog.globalNamed "figurehead/affix.signs" = some 0 by kernel_rfl).symm.trans hg)
  obtain rfl := Option.some.inj ((show (Tryd.prog.globals[0]?).map (·.type) = some 47 by kernel_rfl).symm.trans hty)
  obtain ⟨xs, m, _, hx, hl, hlen, hf⟩ := DataW.trod_array Tryd.underlying47 hd
  rw [show Tryd.prog.cellsOf 47 = 10 by kernel_rfl] at hl
  rw [show Tryd.prog.cellsOf 43 = 2 by kernel_rfl] at hf
  have hx1 := congrArg Prod.fst hx
  have hcs : cs.toList = signsV.toList := by
    match xs, hlen with
    | [y0, y1, y2, y3, y4], _ =>
      simp only [Rows.laid_figurehead_affix_signs, List.map_cons, List.map_nil, DataW.agg.injEq, List.cons.injEq, and_true] at hx1
      obtain ⟨q0, q1, q2, q3, q4⟩ := hx1
      have one : ∀ (i : Nat) (y : DataW Unit × List MemPlace) (k r : Int), DataW.agg [.lit (.int .i64 k), .lit (.int .i32 r)] = y.1 → DataW.trod (fun _ => ()) Tryd.prog w 0 (fun _ => true) false m 43 ((cs.toList.drop (i * 2)).take 2) = some y → (cs.toList.drop (i * 2)).take 2 = [.int .i64 k, .int .i32 r] := fun i y k r e hh => by
        obtain ⟨y1, y2⟩ := y
        simp only at e
        rw [← e] at hh
        exact sign_pair hh
      have c0 := one 0 y0 _ _ q0 (hf 0 (by omega))
      have c1 := one 1 y1 _ _ q1 (hf 1 (by omega))
      have c2 := one 2 y2 _ _ q2 (hf 2 (by omega))
      have c3 := one 3 y3 _ _ q3 (hf 3 (by omega))
      have c4 := one 4 y4 _ _ q4 (hf 4 (by omega))
      generalize cs.toList = l at *
      match l, hl with
      | [a0, a1, a2, a3, a4, a5, a6, a7, a8, a9], _ =>
        simp at c0 c1 c2 c3 c4
        simp [signsV, c0, c1, c2, c3, c4]
  have hv := hvar
  simp only [World.var?, hg, Option.bind_some] at hv
  split at hv
  · rename_i cs' t' fr' he
    have hcc : cs' = cs := by simpa using hv
    rw [hcc, Array.toList_inj.1 hcs] at he
    exact ⟨t', fr', he⟩
  · cases hv
theorem Tabs_drewN {w : World} (h : Tabs w) (n : Nat) : Tabs (w.drewN n) := Tabs_below h (Drawn0.below ⟨⟨n, rfl⟩⟩)
theorem Tabs_drew {w : World} (h : Tabs w) : Tabs w.drew := Tabs_drewN h 1
theorem Utf8_of {w : World} (hSh : w.ShapedOpen Tryd.prog) (h3 : VarReads Tryd.prog w "unicode/utf8.first" firstData) (h4 : VarReads Tryd.prog w "unicode/utf8.acceptRanges" acceptData) : Lib.Utf8Tabs 1 2 w :=
  utf8Tabs_of_readsT (U8Types.of260 Tryd.lays260) { n3 := by kernel_rfl, n4 := by kernel_rfl, y3 := by kernel_rfl, y4 := by kernel_rfl, c5 := by kernel_rfl, c119 := by kernel_rfl, c138 := by kernel_rfl } h3 h4
theorem first_data : Rows.laid_unicode_utf8_first = firstData := Pinned.utf8First_eq
theorem accept_data : Rows.laid_unicode_utf8_acceptRanges = acceptData := by kernel_rfl
/-- Out of a row's list. -/
theorem Tabs_laid {w : World} {l : List (String × DataW Unit)} (hSh : w.ShapedOpen Tryd.prog) (h : laidMet Tryd.prog l w) (h3 : ("unicode/utf8.first", Rows.laid_unicode_utf8_first) ∈ l) (h4 : ("unicode/utf8.acceptRanges", Rows.laid_unicode_utf8_acceptRanges) ∈ l) (h5 : ("figurehead/affix.signs", Rows.laid_figurehead_affix_signs) ∈ l) : Tabs w :=
  ⟨Utf8_of hSh (first_data ▸ laidMet.reads h h3) (accept_data ▸ laidMet.reads h h4), signs_cells (laidMet.reads h h5)⟩
end Go.Proofs.YtcenacecegleeaaDoor.Print
