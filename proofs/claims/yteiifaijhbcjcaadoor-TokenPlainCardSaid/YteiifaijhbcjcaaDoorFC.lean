/- Cuts of a row of anything that is read: what lies there behind a cut. -/
import Derived.Test.YteiifaijhbcjcaaDoorPrint0
import Derived.WalkKit
namespace Go.Proofs.YteiifaijhbcjcaaDoor.Print
open Go.RowKit Go.Proofs.YteiifaijhbcjcaaDoorW.PrintWords Go.Proofs.YteiifaijhbcjcaaDoorW.PrintLast Go.Proofs.YteiifaijhbcjcaaDoorW.PrintMore
set_option linter.unusedVariables false
set_option linter.unusedSimpArgs false

/-- Where a row lies behind a cut. -/
def cutA (A : Option Addr) (c k sz : Nat) : Option Addr := if c = k then A else A.map (·.add (k * sz))
theorem add_add (a : Addr) (i j : Nat) : (a.add i).add j = a.add (i + j) := by
  unfold Addr.add
  by_cases hi : i = 0
  · subst hi
    rw [if_pos rfl, Nat.zero_add]
  · by_cases hj : j = 0
    · subst hj
      rw [if_pos rfl, Nat.add_zero]
    · rw [if_neg hi, if_neg hj, if_neg (by omega)]
      simp [Nat.add_assoc]
theorem C_drop {α : Type} {d : Kd α} {w : World} {A : Option Addr} {l : List α} (h : Kd.C d w A l.length l) (c : Nat) (hc : l.length ≤ c) (k : Nat) (hk : k ≤ l.length) : Kd.C d w (cutA A c k d.sz) (l.drop k).length (l.drop k) := by
  obtain ⟨h1, h2, h3⟩ := h
  refine ⟨rfl, by rw [List.length_drop]; omega, fun hp => ?_⟩
  rw [List.length_drop] at hp
  obtain ⟨ad, rfl, hcell⟩ := h3 (by omega)
  refine ⟨ad.add (k * d.sz), by unfold cutA; rw [if_neg (by omega)]; rfl, fun j p hj => ?_⟩
  rw [List.getElem?_drop] at hj
  obtain ⟨c', hs, hr, hu⟩ := hcell (k + j) p hj
  refine ⟨c', hs, hr, fun i u hi => ?_⟩
  have := hu i u hi
  rw [Nat.add_mul, Nat.add_assoc] at this
  rw [add_add]
  exact this
theorem C_take {α : Type} {d : Kd α} {w : World} {A : Option Addr} {l : List α} (h : Kd.C d w A l.length l) (k : Nat) : Kd.C d w A (l.take k).length (l.take k) := by
  obtain ⟨h1, h2, h3⟩ := h
  refine ⟨rfl, by rw [List.length_take]; omega, fun hp => ?_⟩
  rw [List.length_take] at hp
  obtain ⟨ad, rfl, hcell⟩ := h3 (by omega)
  refine ⟨ad, rfl, fun j p hj => ?_⟩
  refine hcell j p ?_
  rw [List.getElem?_take] at hj
  split at hj
  · exact hj
  · cases hj
theorem run_drop {P : Program} {w : World} (t e sz : Nat) (ht : P.underlying t = some (.slice e)) (hz : ∀ w, (Go.sizeOf e).run P w = .ok sz w) (A : Option Addr) (n c k : Nat) (hk : k ≤ n) :
    (Instr.slice t (.slice A n c) (some (.int .i64 (k : Int))) none none).run P w = .ok (.slice (cutA A c k sz) (n - k) (c - k)) w := by
  have ht' : P.underlying t = some (.slice (P.elem t)) := by simp [Program.elem, ht]
  have he : P.elem t = e := by simp [Program.elem, ht]
  rw [run_slice_l w t A n c ht' .i64 (k : Int) (by omega) (by omega), he, hz]
  simp [sliced, Result.andThen, cutA]
theorem run_take {P : Program} {w : World} (t e sz : Nat) (ht : P.underlying t = some (.slice e)) (hz : ∀ w, (Go.sizeOf e).run P w = .ok sz w) (A : Option Addr) (n c k : Nat) (hk : k ≤ c) :
    (Instr.slice t (.slice A n c) none (some (.int .i64 (k : Int))) none).run P w = .ok (.slice A k c) w := by
  have ht' : P.underlying t = some (.slice (P.elem t)) := by simp [Program.elem, ht]
  have he : P.elem t = e := by simp [Program.elem, ht]
  rw [run_slice_h w t A n c ht' .i64 (k : Int) (by omega) (by omega), he, hz]
  cases A <;> simp [sliced, Result.andThen, Addr.add]
theorem get_exG {α : Type} (l : List α) (i : Nat) (h : i < l.length) : ∃ x, l[i]? = some x := ⟨_, List.getElem?_eq_getElem h⟩
end Go.Proofs.YteiifaijhbcjcaaDoor.Print
