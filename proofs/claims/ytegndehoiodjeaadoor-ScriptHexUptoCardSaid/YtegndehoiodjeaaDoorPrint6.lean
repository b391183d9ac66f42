/- Functions of the program as Lean functions, and that the program's calls answer so: printed by this session's own program (wip/tools/pext.py) out of the translation. Conditions: each theorem's own. Not trusted: Lean checks it. -/
import Derived.Test.YtegndehoiodjeaaDoorPrint0
import Derived.Test.YtegndehoiodjeaaDoorPrint1
import Derived.Test.YtegndehoiodjeaaDoorPrint3
import Derived.Test.YtegndehoiodjeaaDoorFRh
namespace Go.Proofs.YtegndehoiodjeaaDoor.Print
open Go.RowKit Go.Proofs.YtegndehoiodjeaaDoorW.PrintWords Go.Proofs.YtegndehoiodjeaaDoorW.PrintLast Go.Proofs.YtegndehoiodjeaaDoorW.PrintMore
attribute [local go_sem] max2_int min2_int max_two min_two max_three min_three max_four min_four   -- for this text's walks alone
set_option linter.unusedVariables false
set_option linter.unusedSimpArgs false

-- FOREIGN: function 13 (figureheadref25_Hex)

/-! ### figureheadlaw25_ScriptHex: function 4 -/
def figureheadlaw25_ScriptHex.f (k : Nat) (a0 : ByteArray) : Option (Bool) := (figureheadlaw25_answers.f k).bind fun t185 => (if t185 = true then ((script_Hex.f k a0).bind fun t186 => ((figureheadref25_Hex.f a0).bind fun t187 => (some (t186.toList == t187.toList)))) else (some false))
theorem figureheadlaw25_ScriptHex.mono : ∀ a0 k, LeO (figureheadlaw25_ScriptHex.f k a0) (figureheadlaw25_ScriptHex.f (k + 1) a0) := by
  intro a0 k
  unfold figureheadlaw25_ScriptHex.f
  repeat' first
      | (with_reducible exact figureheadlaw25_answers.mono _)
      | (with_reducible exact script_Hex.mono _ _)
      | (with_reducible exact LeO.refl _)
      | (with_reducible exact LeO.none _)
      | (with_reducible refine LeO.ite ?_ ?_)
      | (with_reducible refine LeO.bind ?_ (fun _ => ?_))
      | exact figureheadlaw25_answers.mono _
      | exact script_Hex.mono _ _
      | exact LeO.none _
      | refine LeO.ite ?_ ?_
      | refine LeO.bind ?_ (fun _ => ?_)
set_option maxHeartbeats 8000000 in
set_option maxRecDepth 100000 in
theorem figureheadlaw25_ScriptHex.calls (k : Nat) (a0 : ByteArray) (r : Bool) (w : World) (hT : Tabs w) (h : figureheadlaw25_ScriptHex.f k a0 = some r) :
    Calls Tryd.prog 4 #[.string a0] w fun e w' => e = .returned (.bool r) ∧ Below w.heap.size w w' := by
  have HB := Aside0.mk (Below.refl w.heap.size w)
  have HT := Aside0.mk hT
  clear hT
  have H : ((figureheadlaw25_answers.f k).bind fun t185 => (if t185 = true then ((script_Hex.f k a0).bind fun t186 => ((figureheadref25_Hex.f a0).bind fun t187 => (some (t186.toList == t187.toList)))) else (some false))) = some r := h
  clear h
  replace H := Option.bind_eq_some_iff.mp H
  obtain ⟨t185, A20, H⟩ := H
  replace H : (if t185 = true then ((script_Hex.f k a0).bind fun t186 => ((figureheadref25_Hex.f a0).bind fun t187 => (some (t186.toList == t187.toList)))) else (some false)) = some r := H
  have A2 := Aside0.mk A20
  clear A20
  by_cases c3 : t185 = true
  · subst c3
    have H1 : ((script_Hex.f k a0).bind fun t186 => ((figureheadref25_Hex.f a0).bind fun t187 => (some (t186.toList == t187.toList)))) = some r := by rw [if_pos rfl] at H; exact H
    clear H
    have H := H1
    clear H1
    replace H := Option.bind_eq_some_iff.mp H
    obtain ⟨t186, A40, H⟩ := H
    replace H : ((figureheadref25_Hex.f a0).bind fun t187 => (some (t186.toList == t187.toList))) = some r := H
    have A4 := Aside0.mk A40
    clear A40
    replace H := Option.bind_eq_some_iff.mp H
    obtain ⟨t187, A50, H⟩ := H
    replace H : (some (t186.toList == t187.toList)) = some r := H
    have A5 := Aside0.mk A50
    clear A50
    obtain rfl := Option.some.inj H
    go_enter Tryd.func4, Tryd.ntmps4
    go_wp2_with (first | ((with_reducible refine gate_callee (f := 8) rfl ?_); refine goesL_ (some 3) rfl rfl Tryd.func8 (by kernel_rfl) rfl #[] rfl (by (try simp only [List.map_toArray, List.map_cons, List.map_nil]); first | done | rfl | (simp only [List.length_drop, List.length_take]; rfl)) ?_; (with_reducible refine (figureheadlaw25_answers.calls k  true _ ?side1 A2.out).mono ?_); (case side1 => exact Tabs_below HT.out (by repeat (first | (with_reducible first | exact HB.out | apply below_alloc | apply pw_below_drewN | apply below_drew1) | exact HB.out))); rintro e w6 ⟨rfl, hb⟩; refine ⟨_, rfl, ?_⟩; have n0_ := Aside0.mk (below_step (by repeat (first | (with_reducible first | exact HB.out | apply below_alloc | apply pw_below_drewN | apply below_drew1) | exact HB.out)) hb); clear HB; have HB := n0_; clear n0_; (try clear hb); (try clear hb2); (try clear hk); (try clear hi)) | (go_at_call 12; (with_reducible refine (script_Hex.calls k a0 t186 _ A4.out).mono ?_); rintro e w7 ⟨rfl, hb⟩; have n0_ := Aside0.mk (below_step (by repeat (first | (with_reducible first | exact HB.out | apply below_alloc | apply pw_below_drewN | apply below_drew1) | exact HB.out)) hb); clear HB; have HB := n0_; clear n0_; (try clear hb); (try clear hb2); (try clear hk); (try clear hi)) | (go_at_call 13; (with_reducible refine (figureheadref25_Hex.calls a0 t187 _ A5.out).mono ?_); rintro e w8 ⟨rfl, hb⟩; have n0_ := Aside0.mk (below_step (by repeat (first | (with_reducible first | exact HB.out | apply below_alloc | apply pw_below_drewN | apply below_drew1) | exact HB.out)) hb); clear HB; have HB := n0_; clear n0_; (try clear hb); (try clear hb2); (try clear hk); (try clear hi)))
    go_ret
    exact ⟨by first | rfl | (simp [errW_none, errW_some] <;> rfl) | (simp [*, errW_none, errW_some] <;> rfl), by repeat (first | (with_reducible first | exact HB.out | apply below_alloc | apply pw_below_drewN | apply below_drew1) | exact HB.out)⟩
  · replace c3 := Bool.eq_false_iff.mpr c3
    subst c3
    have H1 : (some false) = some r := by rw [if_neg (show ¬ (false = true) by decide)] at H; exact H
    clear H
    have H := H1
    clear H1
    obtain rfl := Option.some.inj H
    go_enter Tryd.func4, Tryd.ntmps4
    go_wp2_with (first | ((with_reducible refine gate_callee (f := 8) rfl ?_); refine goesL_ (some 3) rfl rfl Tryd.func8 (by kernel_rfl) rfl #[] rfl (by (try simp only [List.map_toArray, List.map_cons, List.map_nil]); first | done | rfl | (simp only [List.length_drop, List.length_take]; rfl)) ?_; (with_reducible refine (figureheadlaw25_answers.calls k  false _ ?side1 A2.out).mono ?_); (case side1 => exact Tabs_below HT.out (by repeat (first | (with_reducible first | exact HB.out | apply below_alloc | apply pw_below_drewN | apply below_drew1) | exact HB.out))); rintro e w9 ⟨rfl, hb⟩; refine ⟨_, rfl, ?_⟩; have n0_ := Aside0.mk (below_step (by repeat (first | (with_reducible first | exact HB.out | apply below_alloc | apply pw_below_drewN | apply below_drew1) | exact HB.out)) hb); clear HB; have HB := n0_; clear n0_; (try clear hb); (try clear hb2); (try clear hk); (try clear hi)))
    go_ret
    exact ⟨by first | rfl | (simp [errW_none, errW_some] <;> rfl) | (simp [*, errW_none, errW_some] <;> rfl), by repeat (first | (with_reducible first | exact HB.out | apply below_alloc | apply pw_below_drewN | apply below_drew1) | exact HB.out)⟩

/-- THE ONE PURE STATEMENT of figureheadlaw25_ScriptHex. -/
def figureheadlaw25_ScriptHex.Pure : Prop := ∀ (a0 : ByteArray), a0.size ≤ 140737488351232 → (a0.size + 1) ≤ 1048576 → ∃ k, figureheadlaw25_ScriptHex.f k a0 = some true


end Go.Proofs.YtegndehoiodjeaaDoor.Print
