/- Functions of the program as Lean functions, and that the program's calls answer so: printed by this session's own program (wip/tools/pext.py) out of the translation. Conditions: each theorem's own. Not trusted: Lean checks it. -/
import Derived.Test.YtgobcejjefgkcaaDoorPrint0
import Derived.Test.YtgobcejjefgkcaaDoorNp
namespace Go.Proofs.YtgobcejjefgkcaaDoor.Print
open Go.RowKit Go.Proofs.YtgobcejjefgkcaaDoorW.PrintWords Go.Proofs.YtgobcejjefgkcaaDoorW.PrintLast Go.Proofs.YtgobcejjefgkcaaDoorW.PrintMore
attribute [local go_sem] max2_int min2_int max_two min_two max_three min_three max_four min_four   -- for this text's walks alone
set_option linter.unusedVariables false
set_option linter.unusedSimpArgs false

-- FOREIGN: function 46 (strings_Repeat)

/-! ### number_repeat: function 28 -/
def number_repeat.f (a0 : ByteArray) (a1 : Int) : Option (ByteArray) := (strings_Repeat.f a0 (mx a1 0)).bind fun t101 => (some t101)
set_option maxHeartbeats 8000000 in
set_option maxRecDepth 100000 in
theorem number_repeat.calls (a0 : ByteArray) (a1 : Int) (r : ByteArray) (w : World) (h : number_repeat.f a0 a1 = some r) :
    Calls Tryd.prog 28 #[.string a0, .int .i64 a1] w fun e w' => e = .returned (.string r) ∧ Below w.heap.size w w' := by
  have HB := Aside0.mk (Below.refl w.heap.size w)
  have H : ((strings_Repeat.f a0 (mx a1 0)).bind fun t101 => (some t101)) = some r := h
  clear h
  obtain ⟨ji3, hji3⟩ : ∃ j_ : Int, (mx a1 0) = j_ := ⟨_, rfl⟩
  replace H : ((strings_Repeat.f a0 (ji3)).bind fun t101 => (some t101)) = some r := by first | (rw [hji3] at H; exact H) | (simp only [hji3] at H ⊢; exact H)
  (try (have hji3l : 0 ≤ ji3 := by (rw [← hji3]; unfold mx; (repeat' split) <;> omega)))
  (try (have hji3m : 0 ≤ ji3 := by omega))
  have hji3_ : (if a1 < 0 then 0 else a1) = ji3 := hji3
  replace H := Option.bind_eq_some_iff.mp H
  obtain ⟨t101, A40, H⟩ := H
  replace H : (some t101) = some r := H
  have A4 := Aside0.mk A40
  clear A40
  obtain rfl := Option.some.inj H
  go_enter Tryd.func28, Tryd.ntmps28
  go_wp2_with (first | ((with_reducible refine gate_callee (f := 46) rfl ?_); refine goesL_ (some 8) rfl rfl Tryd.func46 (by kernel_rfl) rfl #[.string a0, .int .i64 ji3] rfl (by (try simp only [List.map_toArray, List.map_cons, List.map_nil]); first | done | (simp only [hji3]; rfl) | rfl | (simp only [List.length_drop, List.length_take]; rfl)) ?_; (with_reducible refine (strings_Repeat.calls a0 ji3 t101 _ A4.out).mono ?_); rintro e w5 ⟨rfl, hb⟩; refine ⟨_, rfl, ?_⟩; have n0_ := Aside0.mk (below_step (by repeat (first | (with_reducible first | exact HB.out | apply below_alloc | apply pw_below_drewN | apply below_drew1) | exact HB.out)) hb); clear HB; have HB := n0_; clear n0_; (try clear hb); (try clear hb2); (try clear hk); (try clear hi)))
  go_ret
  exact ⟨by first | rfl | (simp [errW_none, errW_some] <;> rfl) | (simp only [← hji3]; first | rfl | (simp [errW_none, errW_some] <;> rfl)) | (simp [*, errW_none, errW_some] <;> rfl), by repeat (first | (with_reducible first | exact HB.out | apply below_alloc | apply pw_below_drewN | apply below_drew1) | exact HB.out)⟩

end Go.Proofs.YtgobcejjefgkcaaDoor.Print
