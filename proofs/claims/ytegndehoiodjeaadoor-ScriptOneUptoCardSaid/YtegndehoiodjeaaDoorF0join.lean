/- strings.Join as the library's text has it: its contract in the kinds' own words. -/
import Derived.Test.YtegndehoiodjeaaDoorPrint0
import Derived.Test.YtegndehoiodjeaaDoorShelf
import Derived.Lib.Join
namespace Go.Proofs.YtegndehoiodjeaaDoor.Print
open Go.RowKit Go.Proofs.YtegndehoiodjeaaDoorW.PrintWords Go.Proofs.YtegndehoiodjeaaDoorW.PrintLast Go.Proofs.YtegndehoiodjeaaDoorW.PrintMore
set_option linter.unusedVariables false
set_option linter.unusedSimpArgs false

def strings_Join.f (l0 : List ByteArray) (a1 : ByteArray) : Option ByteArray :=
  if l0.length ≤ 140737488355328 ∧ (Lib.join (l0.map (·.data.toList)) a1.data.toList).length ≤ 140737488355328 then some ⟨(Lib.join (l0.map (·.data.toList)) a1.data.toList).toArray⟩ else none

theorem no_spot {w : World} {b o : Nat} {sp : Option Nat} {v : Value} (h : w.cell? ⟨b, o, sp⟩ = some v) : sp = none := by
  cases sp with
  | none => rfl
  | some x =>
    unfold World.cell? at h
    split at h <;> simp at h
/-- A row of strings that is read: where it lies. -/
theorem strs_at {w : World} {A : Option Addr} {l : List ByteArray} (h : Kd.C Kd.string w A l.length l) (hl : l ≠ []) :
    ∃ bk o, A = some ⟨bk, o, none⟩ ∧ bk < w.heap.size ∧ ∀ (j : Nat) x, l[j]? = some x → w.cell? ⟨bk, o + j, none⟩ = some (.string x) := by
  obtain ⟨_, _, hc⟩ := h
  obtain ⟨⟨bk, o, sp⟩, rfl, hc2⟩ := hc (List.length_pos_iff.2 hl)
  have one : ∀ (j : Nat) x, l[j]? = some x → w.cell? (Addr.add ⟨bk, o, sp⟩ j) = some (.string x) := fun j x hx => by
    obtain ⟨c, _, hK, hcell⟩ := hc2 j x hx
    have hK2 : c = [.string x] := hK
    subst hK2
    have := hcell 0 _ rfl
    rwa [show Kd.string.sz = 1 from rfl, Nat.mul_one, Nat.add_zero] at this
  obtain ⟨x, r, rfl⟩ := List.exists_cons_of_ne_nil hl
  have h0 := one 0 x rfl
  rw [show (Addr.add ⟨bk, o, sp⟩ 0) = ⟨bk, o, sp⟩ by simp [Addr.add]] at h0
  obtain rfl := no_spot h0
  exact ⟨bk, o, rfl, World.block_lt_of_cell? w _ h0, fun j x hx => by have := one j x hx; rwa [Addr.add_lit] at this⟩

theorem strings_Join.calls (A0 : Option Addr) (c0 : Nat) (l0 : List ByteArray) (a1 r : ByteArray) (w : World) (hr0 : Kd.C Kd.string w A0 l0.length l0) (hc0 : l0.length ≤ c0) (h : strings_Join.f l0 a1 = some r) :
    Calls Tryd.prog 32 #[.slice A0 l0.length c0, .string a1] w fun e w' => e = .returned (.string r) ∧ Below w.heap.size w w' := by
  unfold strings_Join.f at h
  split at h
  · rename_i hb
    cases h
    by_cases hl : l0 = []
    · subst hl
      exact (Tryd.strings_Join_none A0 c0 a1 w).mono fun e w' ⟨he, hw⟩ => ⟨by rw [he]; simp [Lib.join_nil], hw ▸ Below.refl _ _⟩
    · obtain ⟨bk, o, rfl, hbk, hcell⟩ := strs_at hr0 hl
      exact Tryd.strings_Join bk o c0 l0 a1 w hcell hbk hb.1 hc0 hb.2
  · cases h
end Go.Proofs.YtegndehoiodjeaaDoor.Print
