/- Functions of the program as Lean functions, and that the program's calls answer so: printed by this session's own program (wip/tools/pext.py) out of the translation. Conditions: each theorem's own. Not trusted: Lean checks it. -/
import Derived.Test.YtgobcejjefgkcaaDoorProg
import Derived.Below
import Derived.Deep.Draws
import Derived.Deep.AppendLies
import Derived.Maps.AppendAt
import Derived.OwnWalk
import Derived.Laws.BytesArg
import Derived.Laws.MakeOwn
import Derived.Laws.OwnMore
import Derived.Deep.OwnRows
import Derived.Tactics
import Derived.Lib.ConvBytes
import Derived.Laws.Slices
import Derived.WalkKit
import Derived.KernelRfl
import Derived.RowKit3
import Derived.Deep.LoopGhost
import Derived.Deep.QuietTactic
import Derived.BigQuiet
import Derived.WideLaws
import Derived.Deep.DeepCutAuto
import Derived.Deep.CutBlock
import Derived.Deep.RegionHeld3
import Derived.Laws.Rows
import Derived.Lib.AppendStr
import Derived.ArgAppend
import Derived.Laws.IdiomCopy
import Derived.OrdersHeld
import Derived.Laws.BitsLemmas
import Derived.RowKit
import Derived.Test.YtgobcejjefgkcaaDoorWWords
import Derived.Test.YtgobcejjefgkcaaDoorWLast
import Derived.Test.YtgobcejjefgkcaaDoorWTab
import Derived.Test.YtgobcejjefgkcaaDoorWFour
import Derived.Test.YtgobcejjefgkcaaDoorWQPut
import Derived.Test.YtgobcejjefgkcaaDoorWApart
import Derived.Test.YtgobcejjefgkcaaDoorWArr
import Derived.Test.YtgobcejjefgkcaaDoorWZeros
import Derived.Test.YtgobcejjefgkcaaDoorWFoot
import Derived.Test.YtgobcejjefgkcaaDoorWKept
import Derived.Test.YtgobcejjefgkcaaDoorWShare
import Derived.Test.YtgobcejjefgkcaaDoorWN
import Derived.Test.YtgobcejjefgkcaaDoorWFootNe
import Derived.Test.YtgobcejjefgkcaaDoorWAt
import Derived.Test.YtgobcejjefgkcaaDoorWEqStruct
import Derived.Test.YtgobcejjefgkcaaDoorWRepsOne
import Derived.Test.YtgobcejjefgkcaaDoorWInv
import Derived.Test.YtgobcejjefgkcaaDoorWInvWords
import Derived.Test.YtgobcejjefgkcaaDoorWGuard
import Derived.Test.YtgobcejjefgkcaaDoorWNEv
import Derived.Test.YtgobcejjefgkcaaDoorWMore
namespace Go.Proofs.YtgobcejjefgkcaaDoor.Print
open Go.RowKit Go.Proofs.YtgobcejjefgkcaaDoorW.PrintWords Go.Proofs.YtgobcejjefgkcaaDoorW.PrintLast Go.Proofs.YtgobcejjefgkcaaDoorW.PrintMore
attribute [local go_sem] max2_int min2_int max_two min_two max_three min_three max_four min_four   -- for this text's walks alone
set_option linter.unusedVariables false
set_option linter.unusedSimpArgs false



def errW : Option Int → Value
  | none => .nilIface
  | some c => .iface 0 (.int .i64 c)
theorem errW_none : errW none = .nilIface := rfl
theorem errW_some (c : Int) : errW (some c) = .iface 0 (.int .i64 c) := rfl

theorem info5 : (Tryd.prog.info? 5).map (fun i => (i.zero, i.size, i.bytes)) = some (some (.int .u8 0), 1, 1) := by kernel_rfl
-- the values' own types
/-! #### struct type 70 -/
structure S70 where
  f0 : Int
  f1 : Int
def z70 : S70 := ⟨(0 : Int), (0 : Int)⟩
def k70 : Kd S70 := Kd.iso (Kd.pair (Kd.int .i64) (Kd.int .i32)) (fun x : S70 => (x.f0, x.f1))
theorem k70_open {w : World} {x : S70} {cs : List Value} (h : k70.K w x cs) : cs = [.int .i64 x.f0, .int .i32 x.f1] := by
  obtain ⟨_, _, rfl, rfl, rfl⟩ := h
  exact rfl
theorem k70_openM {w : World} {base : Nat} {ok : Nat → Prop} {x : S70} {cs : List Value} (h : k70.M w base ok x cs) : cs = [.int .i64 x.f0, .int .i32 x.f1] := by
  obtain ⟨_, _, rfl, rfl, rfl⟩ := h
  exact rfl
theorem k70_mk (w : World) (x : S70)  : k70.K w x [.int .i64 x.f0, .int .i32 x.f1] := ⟨[.int .i64 x.f0], [.int .i32 x.f1], rfl, rfl, rfl⟩
theorem k70_mkM (w : World) (base : Nat) (ok : Nat → Prop) (x : S70)  : k70.M w base ok x [.int .i64 x.f0, .int .i32 x.f1] := ⟨[.int .i64 x.f0], [.int .i32 x.f1], rfl, rfl, rfl⟩
def rd_T70 (xs : List S70) (i : Int) : S70 := xs.getD i.toNat z70
theorem at_T70 {w : World} {A : Option Addr} {n : Nat} {xs : List S70} (h : Kd.C k70 w A n xs) (i : Int) (h0 : 0 ≤ i) (h1 : i < n) : ∃ ad , A = some ad ∧ w.cell? (ad.add (i.toNat * 2)) = some (.int .i64 (rd_T70 xs i).f0) ∧ w.cell? ⟨(ad.add (i.toNat * 2)).block, (ad.add (i.toNat * 2)).off + 1, none⟩ = some (.int .i32 (rd_T70 xs i).f1) := by
  obtain ⟨ad, c, e, _, hK, hc0⟩ := Kd.C_get h z70 i h0 h1
  have hc : ∀ j u, c[j]? = some u → w.cell? (ad.add (i.toNat * 2 + j)) = some u := hc0
  obtain rfl := k70_open hK
  exact ⟨ad, e, hc 0 _ rfl, by rw [← add_field _ _ 1 (by omega)]; exact hc 1 _ rfl⟩

def rd_L4 (xs : List (List S70)) (i : Int) : (List S70) := xs.getD i.toNat ([] : List S70)
theorem at_L4 {w : World} {A : Option Addr} {n : Nat} {xs : List (List S70)} (h : Kd.C (Kd.slice 70 k70) w A n xs) (i : Int) (h0 : 0 ≤ i) (h1 : i < n) : ∃ ad A0 c0, A = some ad ∧ w.cell? (ad.add i.toNat) = some (.slice A0 (rd_L4 xs i).length c0) ∧ (rd_L4 xs i).length ≤ c0 ∧ k70.C w A0 (rd_L4 xs i).length (rd_L4 xs i) := by
  obtain ⟨ad, c, e, _, hK, hc0⟩ := Kd.C_get h ([] : List S70) i h0 h1
  have hc : ∀ j u, c[j]? = some u → w.cell? (ad.add (i.toNat * 1 + j)) = some u := hc0
  obtain ⟨A0, c0, rfl, l0, g0⟩ := hK
  exact ⟨ad, A0, c0, e, by have hq := hc 0 _ rfl; rwa [Nat.mul_one, Nat.add_zero] at hq, l0, g0⟩

/-! #### struct type 25 -/
structure S25 where
  f0 : (List S70)
  f1 : (List S70)
  f2 : Bool
  f3 : (List S70)
  f4 : (List S70)
  f5 : Int
  f6 : Int
  f7 : Int
  f8 : Int
  f9 : Int
  f10 : Int
  f11 : Int
  f12 : Int
  f13 : ByteArray
  f14 : Bool
  f15 : Int
  f16 : Bool
  f17 : Int
  f18 : Int
  f19 : Int
def z25 : S25 := ⟨([] : List S70), ([] : List S70), false, ([] : List S70), ([] : List S70), (0 : Int), (0 : Int), (0 : Int), (0 : Int), (0 : Int), (0 : Int), (0 : Int), (0 : Int), (⟨#[]⟩ : ByteArray), false, (0 : Int), false, (0 : Int), (0 : Int), (0 : Int)⟩
def k25 : Kd S25 := Kd.iso (Kd.pair (Kd.slice 70 k70) (Kd.pair (Kd.slice 70 k70) (Kd.pair Kd.bool (Kd.pair (Kd.slice 70 k70) (Kd.pair (Kd.slice 70 k70) (Kd.pair (Kd.int .i64) (Kd.pair (Kd.int .i64) (Kd.pair (Kd.int .i64) (Kd.pair (Kd.int .i64) (Kd.pair (Kd.int .i64) (Kd.pair (Kd.int .i64) (Kd.pair (Kd.int .i64) (Kd.pair (Kd.int .i64) (Kd.pair Kd.string (Kd.pair Kd.bool (Kd.pair (Kd.int .i64) (Kd.pair Kd.bool (Kd.pair (Kd.int .i64) (Kd.pair (Kd.int .i32) (Kd.int .i64)))))))))))))))))))) (fun x : S25 => (x.f0, x.f1, x.f2, x.f3, x.f4, x.f5, x.f6, x.f7, x.f8, x.f9, x.f10, x.f11, x.f12, x.f13, x.f14, x.f15, x.f16, x.f17, x.f18, x.f19))
theorem k25_open {w : World} {x : S25} {cs : List Value} (h : k25.K w x cs) : ∃ A0 c0 A1 c1 A3 c3 A4 c4, cs = [.slice A0 x.f0.length c0, .slice A1 x.f1.length c1, .bool x.f2, .slice A3 x.f3.length c3, .slice A4 x.f4.length c4, .int .i64 x.f5, .int .i64 x.f6, .int .i64 x.f7, .int .i64 x.f8, .int .i64 x.f9, .int .i64 x.f10, .int .i64 x.f11, .int .i64 x.f12, .string x.f13, .bool x.f14, .int .i64 x.f15, .bool x.f16, .int .i64 x.f17, .int .i32 x.f18, .int .i64 x.f19] ∧ x.f0.length ≤ c0 ∧ k70.C w A0 x.f0.length x.f0 ∧ x.f1.length ≤ c1 ∧ k70.C w A1 x.f1.length x.f1 ∧ x.f3.length ≤ c3 ∧ k70.C w A3 x.f3.length x.f3 ∧ x.f4.length ≤ c4 ∧ k70.C w A4 x.f4.length x.f4 := by
  obtain ⟨_, _, rfl, ⟨A0, c0, rfl, l0, g0⟩, ⟨_, _, rfl, ⟨A1, c1, rfl, l1, g1⟩, ⟨_, _, rfl, rfl, ⟨_, _, rfl, ⟨A3, c3, rfl, l3, g3⟩, ⟨_, _, rfl, ⟨A4, c4, rfl, l4, g4⟩, ⟨_, _, rfl, rfl, ⟨_, _, rfl, rfl, ⟨_, _, rfl, rfl, ⟨_, _, rfl, rfl, ⟨_, _, rfl, rfl, ⟨_, _, rfl, rfl, ⟨_, _, rfl, rfl, ⟨_, _, rfl, rfl, ⟨_, _, rfl, rfl, ⟨_, _, rfl, rfl, ⟨_, _, rfl, rfl, ⟨_, _, rfl, rfl, ⟨_, _, rfl, rfl, ⟨_, _, rfl, rfl, rfl⟩⟩⟩⟩⟩⟩⟩⟩⟩⟩⟩⟩⟩⟩⟩⟩⟩⟩⟩ := h
  exact ⟨A0, c0, A1, c1, A3, c3, A4, c4, rfl, l0, g0, l1, g1, l3, g3, l4, g4⟩
theorem k25_openM {w : World} {base : Nat} {ok : Nat → Prop} {x : S25} {cs : List Value} (h : k25.M w base ok x cs) : ∃ v0 v1 v3 v4, cs = [v0, v1, .bool x.f2, v3, v4, .int .i64 x.f5, .int .i64 x.f6, .int .i64 x.f7, .int .i64 x.f8, .int .i64 x.f9, .int .i64 x.f10, .int .i64 x.f11, .int .i64 x.f12, .string x.f13, .bool x.f14, .int .i64 x.f15, .bool x.f16, .int .i64 x.f17, .int .i32 x.f18, .int .i64 x.f19] ∧ k70.R 70 w base ok v0 x.f0 ∧ k70.R 70 w base ok v1 x.f1 ∧ k70.R 70 w base ok v3 x.f3 ∧ k70.R 70 w base ok v4 x.f4 := by
  obtain ⟨_, _, rfl, ⟨v0, rfl, g0⟩, ⟨_, _, rfl, ⟨v1, rfl, g1⟩, ⟨_, _, rfl, rfl, ⟨_, _, rfl, ⟨v3, rfl, g3⟩, ⟨_, _, rfl, ⟨v4, rfl, g4⟩, ⟨_, _, rfl, rfl, ⟨_, _, rfl, rfl, ⟨_, _, rfl, rfl, ⟨_, _, rfl, rfl, ⟨_, _, rfl, rfl, ⟨_, _, rfl, rfl, ⟨_, _, rfl, rfl, ⟨_, _, rfl, rfl, ⟨_, _, rfl, rfl, ⟨_, _, rfl, rfl, ⟨_, _, rfl, rfl, ⟨_, _, rfl, rfl, ⟨_, _, rfl, rfl, ⟨_, _, rfl, rfl, rfl⟩⟩⟩⟩⟩⟩⟩⟩⟩⟩⟩⟩⟩⟩⟩⟩⟩⟩⟩ := h
  exact ⟨v0, v1, v3, v4, rfl, g0, g1, g3, g4⟩
theorem k25_mk (w : World) (x : S25) {A0 : Option Addr} {c0 : Nat} (l0 : x.f0.length ≤ c0) (g0 : k70.C w A0 x.f0.length x.f0) {A1 : Option Addr} {c1 : Nat} (l1 : x.f1.length ≤ c1) (g1 : k70.C w A1 x.f1.length x.f1) {A3 : Option Addr} {c3 : Nat} (l3 : x.f3.length ≤ c3) (g3 : k70.C w A3 x.f3.length x.f3) {A4 : Option Addr} {c4 : Nat} (l4 : x.f4.length ≤ c4) (g4 : k70.C w A4 x.f4.length x.f4) : k25.K w x [.slice A0 x.f0.length c0, .slice A1 x.f1.length c1, .bool x.f2, .slice A3 x.f3.length c3, .slice A4 x.f4.length c4, .int .i64 x.f5, .int .i64 x.f6, .int .i64 x.f7, .int .i64 x.f8, .int .i64 x.f9, .int .i64 x.f10, .int .i64 x.f11, .int .i64 x.f12, .string x.f13, .bool x.f14, .int .i64 x.f15, .bool x.f16, .int .i64 x.f17, .int .i32 x.f18, .int .i64 x.f19] := ⟨[.slice A0 x.f0.length c0], [.slice A1 x.f1.length c1, .bool x.f2, .slice A3 x.f3.length c3, .slice A4 x.f4.length c4, .int .i64 x.f5, .int .i64 x.f6, .int .i64 x.f7, .int .i64 x.f8, .int .i64 x.f9, .int .i64 x.f10, .int .i64 x.f11, .int .i64 x.f12, .string x.f13, .bool x.f14, .int .i64 x.f15, .bool x.f16, .int .i64 x.f17, .int .i32 x.f18, .int .i64 x.f19], rfl, ⟨A0, c0, rfl, l0, g0⟩, ⟨[.slice A1 x.f1.length c1], [.bool x.f2, .slice A3 x.f3.length c3, .slice A4 x.f4.length c4, .int .i64 x.f5, .int .i64 x.f6, .int .i64 x.f7, .int .i64 x.f8, .int .i64 x.f9, .int .i64 x.f10, .int .i64 x.f11, .int .i64 x.f12, .string x.f13, .bool x.f14, .int .i64 x.f15, .bool x.f16, .int .i64 x.f17, .int .i32 x.f18, .int .i64 x.f19], rfl, ⟨A1, c1, rfl, l1, g1⟩, ⟨[.bool x.f2], [.slice A3 x.f3.length c3, .slice A4 x.f4.length c4, .int .i64 x.f5, .int .i64 x.f6, .int .i64 x.f7, .int .i64 x.f8, .int .i64 x.f9, .int .i64 x.f10, .int .i64 x.f11, .int .i64 x.f12, .string x.f13, .bool x.f14, .int .i64 x.f15, .bool x.f16, .int .i64 x.f17, .int .i32 x.f18, .int .i64 x.f19], rfl, rfl, ⟨[.slice A3 x.f3.length c3], [.slice A4 x.f4.length c4, .int .i64 x.f5, .int .i64 x.f6, .int .i64 x.f7, .int .i64 x.f8, .int .i64 x.f9, .int .i64 x.f10, .int .i64 x.f11, .int .i64 x.f12, .string x.f13, .bool x.f14, .int .i64 x.f15, .bool x.f16, .int .i64 x.f17, .int .i32 x.f18, .int .i64 x.f19], rfl, ⟨A3, c3, rfl, l3, g3⟩, ⟨[.slice A4 x.f4.length c4], [.int .i64 x.f5, .int .i64 x.f6, .int .i64 x.f7, .int .i64 x.f8, .int .i64 x.f9, .int .i64 x.f10, .int .i64 x.f11, .int .i64 x.f12, .string x.f13, .bool x.f14, .int .i64 x.f15, .bool x.f16, .int .i64 x.f17, .int .i32 x.f18, .int .i64 x.f19], rfl, ⟨A4, c4, rfl, l4, g4⟩, ⟨[.int .i64 x.f5], [.int .i64 x.f6, .int .i64 x.f7, .int .i64 x.f8, .int .i64 x.f9, .int .i64 x.f10, .int .i64 x.f11, .int .i64 x.f12, .string x.f13, .bool x.f14, .int .i64 x.f15, .bool x.f16, .int .i64 x.f17, .int .i32 x.f18, .int .i64 x.f19], rfl, rfl, ⟨[.int .i64 x.f6], [.int .i64 x.f7, .int .i64 x.f8, .int .i64 x.f9, .int .i64 x.f10, .int .i64 x.f11, .int .i64 x.f12, .string x.f13, .bool x.f14, .int .i64 x.f15, .bool x.f16, .int .i64 x.f17, .int .i32 x.f18, .int .i64 x.f19], rfl, rfl, ⟨[.int .i64 x.f7], [.int .i64 x.f8, .int .i64 x.f9, .int .i64 x.f10, .int .i64 x.f11, .int .i64 x.f12, .string x.f13, .bool x.f14, .int .i64 x.f15, .bool x.f16, .int .i64 x.f17, .int .i32 x.f18, .int .i64 x.f19], rfl, rfl, ⟨[.int .i64 x.f8], [.int .i64 x.f9, .int .i64 x.f10, .int .i64 x.f11, .int .i64 x.f12, .string x.f13, .bool x.f14, .int .i64 x.f15, .bool x.f16, .int .i64 x.f17, .int .i32 x.f18, .int .i64 x.f19], rfl, rfl, ⟨[.int .i64 x.f9], [.int .i64 x.f10, .int .i64 x.f11, .int .i64 x.f12, .string x.f13, .bool x.f14, .int .i64 x.f15, .bool x.f16, .int .i64 x.f17, .int .i32 x.f18, .int .i64 x.f19], rfl, rfl, ⟨[.int .i64 x.f10], [.int .i64 x.f11, .int .i64 x.f12, .string x.f13, .bool x.f14, .int .i64 x.f15, .bool x.f16, .int .i64 x.f17, .int .i32 x.f18, .int .i64 x.f19], rfl, rfl, ⟨[.int .i64 x.f11], [.int .i64 x.f12, .string x.f13, .bool x.f14, .int .i64 x.f15, .bool x.f16, .int .i64 x.f17, .int .i32 x.f18, .int .i64 x.f19], rfl, rfl, ⟨[.int .i64 x.f12], [.string x.f13, .bool x.f14, .int .i64 x.f15, .bool x.f16, .int .i64 x.f17, .int .i32 x.f18, .int .i64 x.f19], rfl, rfl, ⟨[.string x.f13], [.bool x.f14, .int .i64 x.f15, .bool x.f16, .int .i64 x.f17, .int .i32 x.f18, .int .i64 x.f19], rfl, rfl, ⟨[.bool x.f14], [.int .i64 x.f15, .bool x.f16, .int .i64 x.f17, .int .i32 x.f18, .int .i64 x.f19], rfl, rfl, ⟨[.int .i64 x.f15], [.bool x.f16, .int .i64 x.f17, .int .i32 x.f18, .int .i64 x.f19], rfl, rfl, ⟨[.bool x.f16], [.int .i64 x.f17, .int .i32 x.f18, .int .i64 x.f19], rfl, rfl, ⟨[.int .i64 x.f17], [.int .i32 x.f18, .int .i64 x.f19], rfl, rfl, ⟨[.int .i32 x.f18], [.int .i64 x.f19], rfl, rfl, rfl⟩⟩⟩⟩⟩⟩⟩⟩⟩⟩⟩⟩⟩⟩⟩⟩⟩⟩⟩
theorem k25_mkM (w : World) (base : Nat) (ok : Nat → Prop) (x : S25) {v0 : Value} (g0 : k70.R 70 w base ok v0 x.f0) {v1 : Value} (g1 : k70.R 70 w base ok v1 x.f1) {v3 : Value} (g3 : k70.R 70 w base ok v3 x.f3) {v4 : Value} (g4 : k70.R 70 w base ok v4 x.f4) : k25.M w base ok x [v0, v1, .bool x.f2, v3, v4, .int .i64 x.f5, .int .i64 x.f6, .int .i64 x.f7, .int .i64 x.f8, .int .i64 x.f9, .int .i64 x.f10, .int .i64 x.f11, .int .i64 x.f12, .string x.f13, .bool x.f14, .int .i64 x.f15, .bool x.f16, .int .i64 x.f17, .int .i32 x.f18, .int .i64 x.f19] := ⟨[v0], [v1, .bool x.f2, v3, v4, .int .i64 x.f5, .int .i64 x.f6, .int .i64 x.f7, .int .i64 x.f8, .int .i64 x.f9, .int .i64 x.f10, .int .i64 x.f11, .int .i64 x.f12, .string x.f13, .bool x.f14, .int .i64 x.f15, .bool x.f16, .int .i64 x.f17, .int .i32 x.f18, .int .i64 x.f19], rfl, ⟨v0, rfl, g0⟩, ⟨[v1], [.bool x.f2, v3, v4, .int .i64 x.f5, .int .i64 x.f6, .int .i64 x.f7, .int .i64 x.f8, .int .i64 x.f9, .int .i64 x.f10, .int .i64 x.f11, .int .i64 x.f12, .string x.f13, .bool x.f14, .int .i64 x.f15, .bool x.f16, .int .i64 x.f17, .int .i32 x.f18, .int .i64 x.f19], rfl, ⟨v1, rfl, g1⟩, ⟨[.bool x.f2], [v3, v4, .int .i64 x.f5, .int .i64 x.f6, .int .i64 x.f7, .int .i64 x.f8, .int .i64 x.f9, .int .i64 x.f10, .int .i64 x.f11, .int .i64 x.f12, .string x.f13, .bool x.f14, .int .i64 x.f15, .bool x.f16, .int .i64 x.f17, .int .i32 x.f18, .int .i64 x.f19], rfl, rfl, ⟨[v3], [v4, .int .i64 x.f5, .int .i64 x.f6, .int .i64 x.f7, .int .i64 x.f8, .int .i64 x.f9, .int .i64 x.f10, .int .i64 x.f11, .int .i64 x.f12, .string x.f13, .bool x.f14, .int .i64 x.f15, .bool x.f16, .int .i64 x.f17, .int .i32 x.f18, .int .i64 x.f19], rfl, ⟨v3, rfl, g3⟩, ⟨[v4], [.int .i64 x.f5, .int .i64 x.f6, .int .i64 x.f7, .int .i64 x.f8, .int .i64 x.f9, .int .i64 x.f10, .int .i64 x.f11, .int .i64 x.f12, .string x.f13, .bool x.f14, .int .i64 x.f15, .bool x.f16, .int .i64 x.f17, .int .i32 x.f18, .int .i64 x.f19], rfl, ⟨v4, rfl, g4⟩, ⟨[.int .i64 x.f5], [.int .i64 x.f6, .int .i64 x.f7, .int .i64 x.f8, .int .i64 x.f9, .int .i64 x.f10, .int .i64 x.f11, .int .i64 x.f12, .string x.f13, .bool x.f14, .int .i64 x.f15, .bool x.f16, .int .i64 x.f17, .int .i32 x.f18, .int .i64 x.f19], rfl, rfl, ⟨[.int .i64 x.f6], [.int .i64 x.f7, .int .i64 x.f8, .int .i64 x.f9, .int .i64 x.f10, .int .i64 x.f11, .int .i64 x.f12, .string x.f13, .bool x.f14, .int .i64 x.f15, .bool x.f16, .int .i64 x.f17, .int .i32 x.f18, .int .i64 x.f19], rfl, rfl, ⟨[.int .i64 x.f7], [.int .i64 x.f8, .int .i64 x.f9, .int .i64 x.f10, .int .i64 x.f11, .int .i64 x.f12, .string x.f13, .bool x.f14, .int .i64 x.f15, .bool x.f16, .int .i64 x.f17, .int .i32 x.f18, .int .i64 x.f19], rfl, rfl, ⟨[.int .i64 x.f8], [.int .i64 x.f9, .int .i64 x.f10, .int .i64 x.f11, .int .i64 x.f12, .string x.f13, .bool x.f14, .int .i64 x.f15, .bool x.f16, .int .i64 x.f17, .int .i32 x.f18, .int .i64 x.f19], rfl, rfl, ⟨[.int .i64 x.f9], [.int .i64 x.f10, .int .i64 x.f11, .int .i64 x.f12, .string x.f13, .bool x.f14, .int .i64 x.f15, .bool x.f16, .int .i64 x.f17, .int .i32 x.f18, .int .i64 x.f19], rfl, rfl, ⟨[.int .i64 x.f10], [.int .i64 x.f11, .int .i64 x.f12, .string x.f13, .bool x.f14, .int .i64 x.f15, .bool x.f16, .int .i64 x.f17, .int .i32 x.f18, .int .i64 x.f19], rfl, rfl, ⟨[.int .i64 x.f11], [.int .i64 x.f12, .string x.f13, .bool x.f14, .int .i64 x.f15, .bool x.f16, .int .i64 x.f17, .int .i32 x.f18, .int .i64 x.f19], rfl, rfl, ⟨[.int .i64 x.f12], [.string x.f13, .bool x.f14, .int .i64 x.f15, .bool x.f16, .int .i64 x.f17, .int .i32 x.f18, .int .i64 x.f19], rfl, rfl, ⟨[.string x.f13], [.bool x.f14, .int .i64 x.f15, .bool x.f16, .int .i64 x.f17, .int .i32 x.f18, .int .i64 x.f19], rfl, rfl, ⟨[.bool x.f14], [.int .i64 x.f15, .bool x.f16, .int .i64 x.f17, .int .i32 x.f18, .int .i64 x.f19], rfl, rfl, ⟨[.int .i64 x.f15], [.bool x.f16, .int .i64 x.f17, .int .i32 x.f18, .int .i64 x.f19], rfl, rfl, ⟨[.bool x.f16], [.int .i64 x.f17, .int .i32 x.f18, .int .i64 x.f19], rfl, rfl, ⟨[.int .i64 x.f17], [.int .i32 x.f18, .int .i64 x.f19], rfl, rfl, ⟨[.int .i32 x.f18], [.int .i64 x.f19], rfl, rfl, rfl⟩⟩⟩⟩⟩⟩⟩⟩⟩⟩⟩⟩⟩⟩⟩⟩⟩⟩⟩
def rd_T25 (xs : List S25) (i : Int) : S25 := xs.getD i.toNat z25
theorem at_T25 {w : World} {A : Option Addr} {n : Nat} {xs : List S25} (h : Kd.C k25 w A n xs) (i : Int) (h0 : 0 ≤ i) (h1 : i < n) : ∃ ad A0 c0 A1 c1 A3 c3 A4 c4, A = some ad ∧ w.cell? (ad.add (i.toNat * 20)) = some (.slice A0 (rd_T25 xs i).f0.length c0) ∧ w.cell? ⟨(ad.add (i.toNat * 20)).block, (ad.add (i.toNat * 20)).off + 1, none⟩ = some (.slice A1 (rd_T25 xs i).f1.length c1) ∧ w.cell? ⟨(ad.add (i.toNat * 20)).block, (ad.add (i.toNat * 20)).off + 2, none⟩ = some (.bool (rd_T25 xs i).f2) ∧ w.cell? ⟨(ad.add (i.toNat * 20)).block, (ad.add (i.toNat * 20)).off + 3, none⟩ = some (.slice A3 (rd_T25 xs i).f3.length c3) ∧ w.cell? ⟨(ad.add (i.toNat * 20)).block, (ad.add (i.toNat * 20)).off + 4, none⟩ = some (.slice A4 (rd_T25 xs i).f4.length c4) ∧ w.cell? ⟨(ad.add (i.toNat * 20)).block, (ad.add (i.toNat * 20)).off + 5, none⟩ = some (.int .i64 (rd_T25 xs i).f5) ∧ w.cell? ⟨(ad.add (i.toNat * 20)).block, (ad.add (i.toNat * 20)).off + 6, none⟩ = some (.int .i64 (rd_T25 xs i).f6) ∧ w.cell? ⟨(ad.add (i.toNat * 20)).block, (ad.add (i.toNat * 20)).off + 7, none⟩ = some (.int .i64 (rd_T25 xs i).f7) ∧ w.cell? ⟨(ad.add (i.toNat * 20)).block, (ad.add (i.toNat * 20)).off + 8, none⟩ = some (.int .i64 (rd_T25 xs i).f8) ∧ w.cell? ⟨(ad.add (i.toNat * 20)).block, (ad.add (i.toNat * 20)).off + 9, none⟩ = some (.int .i64 (rd_T25 xs i).f9) ∧ w.cell? ⟨(ad.add (i.toNat * 20)).block, (ad.add (i.toNat * 20)).off + 10, none⟩ = some (.int .i64 (rd_T25 xs i).f10) ∧ w.cell? ⟨(ad.add (i.toNat * 20)).block, (ad.add (i.toNat * 20)).off + 11, none⟩ = some (.int .i64 (rd_T25 xs i).f11) ∧ w.cell? ⟨(ad.add (i.toNat * 20)).block, (ad.add (i.toNat * 20)).off + 12, none⟩ = some (.int .i64 (rd_T25 xs i).f12) ∧ w.cell? ⟨(ad.add (i.toNat * 20)).block, (ad.add (i.toNat * 20)).off + 13, none⟩ = some (.string (rd_T25 xs i).f13) ∧ w.cell? ⟨(ad.add (i.toNat * 20)).block, (ad.add (i.toNat * 20)).off + 14, none⟩ = some (.bool (rd_T25 xs i).f14) ∧ w.cell? ⟨(ad.add (i.toNat * 20)).block, (ad.add (i.toNat * 20)).off + 15, none⟩ = some (.int .i64 (rd_T25 xs i).f15) ∧ w.cell? ⟨(ad.add (i.toNat * 20)).block, (ad.add (i.toNat * 20)).off + 16, none⟩ = some (.bool (rd_T25 xs i).f16) ∧ w.cell? ⟨(ad.add (i.toNat * 20)).block, (ad.add (i.toNat * 20)).off + 17, none⟩ = some (.int .i64 (rd_T25 xs i).f17) ∧ w.cell? ⟨(ad.add (i.toNat * 20)).block, (ad.add (i.toNat * 20)).off + 18, none⟩ = some (.int .i32 (rd_T25 xs i).f18) ∧ w.cell? ⟨(ad.add (i.toNat * 20)).block, (ad.add (i.toNat * 20)).off + 19, none⟩ = some (.int .i64 (rd_T25 xs i).f19) ∧ (rd_T25 xs i).f0.length ≤ c0 ∧ k70.C w A0 (rd_T25 xs i).f0.length (rd_T25 xs i).f0 ∧ (rd_T25 xs i).f1.length ≤ c1 ∧ k70.C w A1 (rd_T25 xs i).f1.length (rd_T25 xs i).f1 ∧ (rd_T25 xs i).f3.length ≤ c3 ∧ k70.C w A3 (rd_T25 xs i).f3.length (rd_T25 xs i).f3 ∧ (rd_T25 xs i).f4.length ≤ c4 ∧ k70.C w A4 (rd_T25 xs i).f4.length (rd_T25 xs i).f4 := by
  obtain ⟨ad, c, e, _, hK, hc0⟩ := Kd.C_get h z25 i h0 h1
  have hc : ∀ j u, c[j]? = some u → w.cell? (ad.add (i.toNat * 20 + j)) = some u := hc0
  obtain ⟨A0, c0, A1, c1, A3, c3, A4, c4, rfl, l0, g0, l1, g1, l3, g3, l4, g4⟩ := k25_open hK
  exact ⟨ad, A0, c0, A1, c1, A3, c3, A4, c4, e, hc 0 _ rfl, by rw [← add_field _ _ 1 (by omega)]; exact hc 1 _ rfl, by rw [← add_field _ _ 2 (by omega)]; exact hc 2 _ rfl, by rw [← add_field _ _ 3 (by omega)]; exact hc 3 _ rfl, by rw [← add_field _ _ 4 (by omega)]; exact hc 4 _ rfl, by rw [← add_field _ _ 5 (by omega)]; exact hc 5 _ rfl, by rw [← add_field _ _ 6 (by omega)]; exact hc 6 _ rfl, by rw [← add_field _ _ 7 (by omega)]; exact hc 7 _ rfl, by rw [← add_field _ _ 8 (by omega)]; exact hc 8 _ rfl, by rw [← add_field _ _ 9 (by omega)]; exact hc 9 _ rfl, by rw [← add_field _ _ 10 (by omega)]; exact hc 10 _ rfl, by rw [← add_field _ _ 11 (by omega)]; exact hc 11 _ rfl, by rw [← add_field _ _ 12 (by omega)]; exact hc 12 _ rfl, by rw [← add_field _ _ 13 (by omega)]; exact hc 13 _ rfl, by rw [← add_field _ _ 14 (by omega)]; exact hc 14 _ rfl, by rw [← add_field _ _ 15 (by omega)]; exact hc 15 _ rfl, by rw [← add_field _ _ 16 (by omega)]; exact hc 16 _ rfl, by rw [← add_field _ _ 17 (by omega)]; exact hc 17 _ rfl, by rw [← add_field _ _ 18 (by omega)]; exact hc 18 _ rfl, by rw [← add_field _ _ 19 (by omega)]; exact hc 19 _ rfl, l0, g0, l1, g1, l3, g3, l4, g4⟩

def wf70 (x : S70) : Prop := ((Lit.int .i64 x.f0).wf = true) ∧ ((Lit.int .i32 x.f1).wf = true)
def bulk70 (x : S70) : Nat := (1 + 1) + 1
def wf25 (x : S25) : Prop := (x.f0.length ≤ maxLen ∧ ∀ a_ ∈ x.f0, wf70 a_) ∧ ((x.f1.length ≤ maxLen ∧ ∀ a_ ∈ x.f1, wf70 a_) ∧ ((True) ∧ ((x.f3.length ≤ maxLen ∧ ∀ a_ ∈ x.f3, wf70 a_) ∧ ((x.f4.length ≤ maxLen ∧ ∀ a_ ∈ x.f4, wf70 a_) ∧ (((Lit.int .i64 x.f5).wf = true) ∧ (((Lit.int .i64 x.f6).wf = true) ∧ (((Lit.int .i64 x.f7).wf = true) ∧ (((Lit.int .i64 x.f8).wf = true) ∧ (((Lit.int .i64 x.f9).wf = true) ∧ (((Lit.int .i64 x.f10).wf = true) ∧ (((Lit.int .i64 x.f11).wf = true) ∧ (((Lit.int .i64 x.f12).wf = true) ∧ ((x.f13.size ≤ maxLen) ∧ ((True) ∧ (((Lit.int .i64 x.f15).wf = true) ∧ ((True) ∧ (((Lit.int .i64 x.f17).wf = true) ∧ (((Lit.int .i32 x.f18).wf = true) ∧ ((Lit.int .i64 x.f19).wf = true)))))))))))))))))))
def bulk25 (x : S25) : Nat := (((x.f0.map bulk70).sum + 1) + (((x.f1.map bulk70).sum + 1) + (1 + (((x.f3.map bulk70).sum + 1) + (((x.f4.map bulk70).sum + 1) + (1 + (1 + (1 + (1 + (1 + (1 + (1 + (1 + ((x.f13.size + 1) + (1 + (1 + (1 + (1 + (1 + 1))))))))))))))))))) + 1
theorem bneNil_ (l : List UInt8) : (l != []) = !l.isEmpty := by cases l <;> rfl
end Go.Proofs.YtgobcejjefgkcaaDoor.Print
