/- What is proved: the given statement Rows.NumberFieldsCardSaid: the Go function figurehead/figureheadlaw15.NumberFields returns true at every input and leaves each argument as it was. Conditions: none but the statement's own. Put together by this session's own program (wip/tools/lawrow.py) out of the law's pure statement and the printed walk. -/
import Derived.Test.YtgobcejjefgkcaaDoorRows
import Derived.Test.YtgobcejjefgkcaaDoorNfd
import Derived.Test.YtgobcejjefgkcaaDoorPureNumberFields
import Derived.Test.YtgobcejjefgkcaaDoorOpen
import Derived.Test.YtgobcejjefgkcaaDoorCards
import Derived.Test.YtgobcejjefgkcaaDoorTie
import Derived.WalkKit
import Derived.ProofKit
import Derived.OpenShut
import Derived.ShutString
import Derived.ChangeOld
import Derived.Below
import Derived.SizedLaws
import Derived.Carry
import Derived.Deep.DeepHandedRow
import Derived.Lib.LaidTab
import Derived.MakeChecks
namespace Go.Proofs.YtgobcejjefgkcaaDoor.numberFields
open Go.ChangeShapes Go.WideShapes Go.ChangeAt Go.RowKit Go.Proofs.YtgobcejjefgkcaaDoor.Opn Go.Proofs.YtgobcejjefgkcaaDoor.Print Go.Proofs.YtgobcejjefgkcaaDoorW.PrintWords
open Go.ChangeMaps (open_string shut_string)
set_option linter.unusedVariables false
theorem own : ownKnob Tryd.prog.godebug = none := by kernel_rfl
theorem laidOut : laidOutB Tryd.prog = true := by kernel_rfl
set_option maxRecDepth 100000 in
theorem opens70 : Opens Tryd.prog 70 k70 wf70 bulk70 :=
  opens_struct Tryd.underlying70 rfl (by kernel_rfl) (opensF_cons rfl (by kernel_rfl) (opens_int Tryd.underlying3) (opensF_one rfl (by kernel_rfl) (opens_int Tryd.underlying21))) (fun x : S70 => (x.f0, x.f1)) (fun p => ⟨p.1, p.2⟩) (fun _ => rfl)
set_option maxRecDepth 100000 in
theorem opens25 : Opens Tryd.prog 25 k25 wf25 bulk25 :=
  opens_struct Tryd.underlying25 rfl (by kernel_rfl) (opensF_cons rfl (by kernel_rfl) (opens_slice Tryd.underlying23 (by kernel_rfl) opens70) (opensF_cons rfl (by kernel_rfl) (opens_slice Tryd.underlying23 (by kernel_rfl) opens70) (opensF_cons rfl (by kernel_rfl) (opens_bool Tryd.underlying4) (opensF_cons rfl (by kernel_rfl) (opens_slice Tryd.underlying23 (by kernel_rfl) opens70) (opensF_cons rfl (by kernel_rfl) (opens_slice Tryd.underlying23 (by kernel_rfl) opens70) (opensF_cons rfl (by kernel_rfl) (opens_int Tryd.underlying3) (opensF_cons rfl (by kernel_rfl) (opens_int Tryd.underlying3) (opensF_cons rfl (by kernel_rfl) (opens_int Tryd.underlying3) (opensF_cons rfl (by kernel_rfl) (opens_int Tryd.underlying3) (opensF_cons rfl (by kernel_rfl) (opens_int Tryd.underlying3) (opensF_cons rfl (by kernel_rfl) (opens_int Tryd.underlying3) (opensF_cons rfl (by kernel_rfl) (opens_int Tryd.underlying3) (opensF_cons rfl (by kernel_rfl) (opens_int Tryd.underlying3) (opensF_cons rfl (by kernel_rfl) (opens_string Tryd.underlying9) (opensF_cons rfl (by kernel_rfl) (opens_bool Tryd.underlying4) (opensF_cons rfl (by kernel_rfl) (opens_int Tryd.underlying3) (opensF_cons rfl (by kernel_rfl) (opens_bool Tryd.underlying4) (opensF_cons rfl (by kernel_rfl) (opens_int Tryd.underlying3) (opensF_cons rfl (by kernel_rfl) (opens_int Tryd.underlying21) (opensF_one rfl (by kernel_rfl) (opens_int Tryd.underlying3))))))))))))))))))))) (fun x : S25 => (x.f0, x.f1, x.f2, x.f3, x.f4, x.f5, x.f6, x.f7, x.f8, x.f9, x.f10, x.f11, x.f12, x.f13, x.f14, x.f15, x.f16, x.f17, x.f18, x.f19)) (fun p => ⟨p.1, p.2.1, p.2.2.1, p.2.2.2.1, p.2.2.2.2.1, p.2.2.2.2.2.1, p.2.2.2.2.2.2.1, p.2.2.2.2.2.2.2.1, p.2.2.2.2.2.2.2.2.1, p.2.2.2.2.2.2.2.2.2.1, p.2.2.2.2.2.2.2.2.2.2.1, p.2.2.2.2.2.2.2.2.2.2.2.1, p.2.2.2.2.2.2.2.2.2.2.2.2.1, p.2.2.2.2.2.2.2.2.2.2.2.2.2.1, p.2.2.2.2.2.2.2.2.2.2.2.2.2.2.1, p.2.2.2.2.2.2.2.2.2.2.2.2.2.2.2.1, p.2.2.2.2.2.2.2.2.2.2.2.2.2.2.2.2.1, p.2.2.2.2.2.2.2.2.2.2.2.2.2.2.2.2.2.1, p.2.2.2.2.2.2.2.2.2.2.2.2.2.2.2.2.2.2.1, p.2.2.2.2.2.2.2.2.2.2.2.2.2.2.2.2.2.2.2⟩) (fun _ => rfl)
set_option maxRecDepth 100000 in
theorem contract (H : Type) (enc : TypeId × Value → H) (W : World) (base : Nat) (args : Array Value) (ds gs : List (DataW H)) (before : List MemPlace)
    (hval0 : ∀ (j : Nat) t v, Tryd.f8.params[j]? = some t → args[j]? = some v → Value.okWide Tryd.prog W .any base t v)
    (hW : DataW.Whole enc Tryd.prog Tryd.f8.params.toList Rows.numberFieldsSpec.vars false W args.toList ds gs before)
    (hsz0 : (DataW.weightsEach Tryd.prog (Tryd.f8.params.toList ++ (OpenSpec.ofChange Rows.numberFieldsSpec).bare.plain.varTypes Tryd.prog) (ds ++ gs)).all (· ≤ reachBytes) = true) (hT : Tabs W) :
    Calls Tryd.prog 8 args W fun e W' => ∃ v, e = .returned v ∧ Rows.numberFieldsSpec.post enc Tryd.prog Tryd.f8 false true false false W args v W' := by
  have hsz : (DataW.weightsEach Tryd.prog (Tryd.f8.params.toList ++ (OpenSpec.ofChange Rows.numberFieldsSpec).bare.plain.varTypes Tryd.prog) (ds ++ gs)).all (· ≤ reachBytes) = true := hsz0
  have hval : ∀ (j : Nat) t v, Tryd.f8.params[j]? = some t → args[j]? = some v → Value.okWide Tryd.prog W .any base t v := hval0
  have hW' := hW
  obtain ⟨p, q, hA0, hV, rfl, hfz, hnd⟩ := hW
  have hA : DataW.TrodAll enc Tryd.prog W 0 (fun _ => true) true Tryd.f8.params.toList args.toList ds p := hA0
  rw [Tryd.params8] at hA hval hsz
  obtain ⟨v0, vs0, d0, ds0, p0, q0, hargs, rfl, rfl, h0, r0⟩ := trodAll_cons hA
  obtain ⟨rfl, rfl, rfl⟩ := trodAll_nil r0
  obtain rfl : args = #[v0] := by cases args; simp_all
  obtain ⟨rfl, rfl⟩ := trodVars_none hV
  have lt0 : ∀ x ∈ p0, x.block < W.heap.size := by obtain ⟨m, hm⟩ := h0; exact DataW.trod_lt m _ _ _ hm
  have k0 := h0
  obtain ⟨x0, cs0, rfl, hK0, w0, b0⟩ := open_record Tryd.underlying25 opens25 (hval 0 25 v0 rfl rfl) h0
  obtain ⟨A0_0, c0_0, A0_1, c0_1, A0_3, c0_3, A0_4, c0_4, hcs0, g0_0, hr0_0, g0_1, hr0_1, g0_3, hr0_3, g0_4, hr0_4⟩ := k25_open hK0
  obtain rfl := arr_of hcs0
  clear hA0 hval0 hsz0 hsz
  have h := Pure.NumberFields x0.f0 x0.f1 x0.f2 x0.f3 x0.f4 x0.f5 x0.f6 x0.f7 x0.f8 x0.f9 x0.f10 x0.f11 x0.f12 x0.f13 x0.f14 x0.f15 x0.f16 x0.f17 x0.f18 x0.f19 w0
  refine (figureheadlaw15_NumberFields.calls A0_0 c0_0 x0.f0 A0_1 c0_1 x0.f1 x0.f2 A0_3 c0_3 x0.f3 A0_4 c0_4 x0.f4 x0.f5 x0.f6 x0.f7 x0.f8 x0.f9 x0.f10 x0.f11 x0.f12 x0.f13 x0.f14 x0.f15 x0.f16 x0.f17 x0.f18 x0.f19 true W hr0_0 g0_0 hr0_1 g0_1 hr0_3 g0_3 hr0_4 g0_4 hT h).mono fun e W' ⟨he, bel0⟩ => ?_
  have bel : Below W.heap.size W W' := bel0
  subst he
  exact ⟨_, rfl, _, _, _, [], _, [], hW', trodAll_mk1 (shut_bool Tryd.underlying4 _), (trodAll_cons_mk (Below.trod laidOut (by kernel_rfl) (of_decide_eq_true (by kernel_rfl)) k0 bel lt0) trodAll_mk0), rfl, bel.frame _, fun h => by cases h⟩
noncomputable def laidWorld (os : Os) : World :=
  { World.holding Tryd.prog os ⟨#[], #[], []⟩ with heap := (((World.holding Tryd.prog os ⟨#[], #[], []⟩).heap.modify 2 fun | .cells _ t frozen => .cells #[.int .u8 128, .int .u8 191, .int .u8 160, .int .u8 191, .int .u8 128, .int .u8 159, .int .u8 144, .int .u8 191, .int .u8 128, .int .u8 143, .int .u8 0, .int .u8 0, .int .u8 0, .int .u8 0, .int .u8 0, .int .u8 0, .int .u8 0, .int .u8 0, .int .u8 0, .int .u8 0, .int .u8 0, .int .u8 0, .int .u8 0, .int .u8 0, .int .u8 0, .int .u8 0, .int .u8 0, .int .u8 0, .int .u8 0, .int .u8 0, .int .u8 0, .int .u8 0] t frozen | o => o).modify 1 fun | .cells _ t frozen => .cells (Go.Pinned.utf8FirstZ.map (fun n => Value.int .u8 (Int.ofNat n))).toArray t frozen | o => o) }
set_option maxRecDepth 100000 in
theorem laid_met (os : Os) : laidMet Tryd.prog Rows.numberFieldsRow.laid ((laidWorld os).forCall (fun _ _ => 0) ⟨#[], #[.agg #[.slice none 0 0, .slice none 0 0, .bool false, .slice none 0 0, .slice none 0 0, .int .i64 0, .int .i64 0, .int .i64 0, .int .i64 0, .int .i64 0, .int .i64 0, .int .i64 0, .int .i64 0, .string ByteArray.empty, .bool false, .int .i64 0, .bool false, .int .i64 0, .int .i32 0, .int .i64 0]], []⟩).memory :=
  laidMet_of_run' 8 (by kernel_rfl) (by kernel_rfl)
theorem reads (os : Os) {H : Type} (enc : TypeId × Value → H) : ∃ places, DataW.whole enc Tryd.prog ((laidWorld os).forCall (fun _ _ => 0) ⟨#[], #[.agg #[.slice none 0 0, .slice none 0 0, .bool false, .slice none 0 0, .slice none 0 0, .int .i64 0, .int .i64 0, .int .i64 0, .int .i64 0, .int .i64 0, .int .i64 0, .int .i64 0, .int .i64 0, .string ByteArray.empty, .bool false, .int .i64 0, .bool false, .int .i64 0, .int .i32 0, .int .i64 0]], []⟩).memory Tryd.f8.params.toList Rows.numberFieldsSpec.vars false (#[.agg #[.slice none 0 0, .slice none 0 0, .bool false, .slice none 0 0, .slice none 0 0, .int .i64 0, .int .i64 0, .int .i64 0, .int .i64 0, .int .i64 0, .int .i64 0, .int .i64 0, .int .i64 0, .string ByteArray.empty, .bool false, .int .i64 0, .bool false, .int .i64 0, .int .i32 0, .int .i64 0]] : Array Value).toList 8 = some ([.agg [.nil, .nil, .lit (.bool false), .nil, .nil, .lit (.int .i64 0), .lit (.int .i64 0), .lit (.int .i64 0), .lit (.int .i64 0), .lit (.int .i64 0), .lit (.int .i64 0), .lit (.int .i64 0), .lit (.int .i64 0), .lit (.string []), .lit (.bool false), .lit (.int .i64 0), .lit (.bool false), .lit (.int .i64 0), .lit (.int .i32 0), .lit (.int .i64 0)]], [], places) :=
  ⟨[], by kernel_rfl⟩
set_option maxRecDepth 100000 in
theorem lifted (os : Os) (started : os.Started) (H : Type) (enc : TypeId × Value → H) (F : Stop.Interp) :
    ReturnsInHanded {} Tryd.checked os 8 .any ((OpenSpec.ofChange Rows.numberFieldsSpec).preRow enc Tryd.prog Tryd.f8 Rows.numberFieldsRow.domain false Rows.numberFieldsRow.laid) (((OpenSpec.ofChange Rows.numberFieldsSpec).at F).post enc Tryd.prog Tryd.f8 false true false false) := by
  obtain ⟨places, hx⟩ := reads os enc
  refine returnsInHanded_of_row (C := Tryd.checked) (s := (OpenSpec.ofChange Rows.numberFieldsSpec)) own started (by kernel_rfl) Tryd.func8
    (witness_row_at (enc := enc) (C := Tryd.checked) false (laidWorld os) #[.agg #[.slice none 0 0, .slice none 0 0, .bool false, .slice none 0 0, .slice none 0 0, .int .i64 0, .int .i64 0, .int .i64 0, .int .i64 0, .int .i64 0, .int .i64 0, .int .i64 0, .int .i64 0, .string ByteArray.empty, .bool false, .int .i64 0, .bool false, .int .i64 0, .int .i32 0, .int .i64 0]] rfl (by kernel_rfl) (by kernel_rfl) (by kernel_rfl)
      (OpenSpec.preRow_of_cond 8 hx (by kernel_rfl) (fun k hk => by cases hk) (by kernel_rfl) (laid_met os))) ?_
  intro W base args ds gs before hval hW _ hcond hsz hL hSh _
  exact contract H enc W base args ds gs before hval hW hsz (Tabs_laid hSh (by rw [MakeChecks.laidMetH_plain _ _ _ (by kernel_rfl)] at hL; exact hL) (by simp [Rows.numberFieldsRow]) (by simp [Rows.numberFieldsRow]))
theorem over : Rows.NumberFieldsSaid :=
  OpenClaim.holds_of_cond 8 Tryd.f8 rfl rfl rfl rfl rfl rfl rfl ⟨rfl, rfl, rfl, rfl, rfl⟩ rfl rfl rfl rfl rfl (by kernel_rfl) Tryd.func8 (by kernel_rfl)
    (of_decide_eq_true (by kernel_rfl)) (by unfold Func.isWrapper; first | (rw [if_pos (by decide +kernel)]; kernel_rfl) | (rw [if_neg (by decide +kernel)]; exact ⟨rfl, rfl⟩))
    (fun os started H enc _ F => by rw [OpenClaim.pre_eq_preRow]; exact lifted os started H enc F)
theorem plain (f : FuncId) (fn : Func) (hf : Tryd.pinned.checked.prog.funcNamed "figurehead/figureheadlaw15.NumberFields" = some f) (hfn : Tryd.pinned.checked.prog.funcs[f]? = some fn) :
    false = Tryd.pinned.checked.prog.looks [] ∧ ∀ (j : Nat) t, fn.params[j]? = some t → Tryd.pinned.checked.prog.wantsStandIn t = false := by
  obtain rfl : f = 8 := Option.some.inj ((show Tryd.prog.funcNamed "figurehead/figureheadlaw15.NumberFields" = some 8 by kernel_rfl).symm.trans hf) |>.symm
  obtain rfl : fn = Tryd.f8 := (Option.some.inj (Tryd.func8.symm.trans hfn)).symm
  refine ⟨by kernel_rfl, fun j t ht => ?_⟩
  rw [Tryd.params8] at ht
  have ht2 : t ∈ [25] := by simpa using Array.mem_of_getElem? ht
  simp only [List.mem_cons, List.mem_nil_iff, or_false] at ht2
  rcases ht2 with rfl
  · exact (show Tryd.prog.wantsStandIn 25 = false by kernel_rfl)
theorem proved : Rows.NumberFieldsCardSaid :=
  Claim7.holds_tied_plain_at .later [] _ _ _ _ over (fun _ h => by cases h) (by kernel_rfl) (fun _ h => by cases h) numberFields_row_tie rfl ⟨rfl, rfl⟩ (by kernel_rfl) rfl plain (by kernel_rfl)
#print axioms proved
end Go.Proofs.YtgobcejjefgkcaaDoor.numberFields
namespace Go.Proofs.YtgobcejjefgkcaaDoor
/-- The row, under a short name, for the claim. -/
theorem numberFields_holds : Rows.NumberFieldsCardSaid := numberFields.proved
end Go.Proofs.YtgobcejjefgkcaaDoor
