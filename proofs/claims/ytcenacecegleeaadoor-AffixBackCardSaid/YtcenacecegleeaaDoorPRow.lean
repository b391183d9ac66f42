/- Package token's row, the plain side: how many quoted tokens stand behind one another, and whether all are quotes. -/
import Derived.Test.YtcenacecegleeaaDoorPrint4
import Derived.Test.YtcenacecegleeaaDoorU
namespace Go.Proofs.YtcenacecegleeaaDoor.Pure
open Go.RowKit Go.Proofs.YtcenacecegleeaaDoor.Print Go.Proofs.YtcenacecegleeaaDoor.U Go.Proofs.YtcenacecegleeaaDoorW.PrintWords
set_option linter.unusedVariables false
set_option linter.unusedSimpArgs false

def rowN (m : List S36) : Nat := (m.takeWhile (·.f1)).length
def rowA (m : List S36) : Bool := (m.takeWhile (·.f1)).all (fun x => x.f0 == 39)
theorem rdK_at (l : List S36) (i : Nat) (h : i < l.length) : rd_T36 l (i : Int) = l[i] := by
  unfold rd_T36
  rw [Int.toNat_natCast, List.getD_eq_getElem?_getD, List.getElem?_eq_getElem h]
  rfl
theorem row_l0 (l : List S36) (hl : l.length ≤ 1000000000000) : ∀ (d i : Nat) (b : Bool), i + d = l.length → Ev (fun k => token_row.l0 k l b l (l.length : Int) (i : Int)) (((i + rowN (l.drop i) : Nat) : Int), (b && rowA (l.drop i)))
  | 0, i, b, hd => by
    refine succ ?_
    simp only [token_row.l0]
    rw [List.drop_of_length_le (by omega)]
    refine neg (by omega) (mk (fun _ => ?_))
    simp [rowN, rowA]
    omega
  | d + 1, i, b, hd => by
    refine succ ?_
    simp only [token_row.l0]
    have hi : i < l.length := by omega
    rw [rdK_at l i hi, List.drop_eq_getElem_cons hi, w64 (by omega) (by omega)]
    refine pos (by omega) (pos (by omega) (pos (by omega) ?_))
    have ih : ∀ b, Ev (fun k => token_row.l0 k l b l (l.length : Int) ((i : Int) + 1)) (((i + 1 + rowN (l.drop (i + 1)) : Nat) : Int), (b && rowA (l.drop (i + 1)))) := fun b => by
      have := row_l0 l hl d (i + 1) b (by omega)
      simpa using this
    by_cases h1 : l[i].f1 = true
    · refine pos h1 ?_
      have e1 : rowN (l[i] :: l.drop (i + 1)) = rowN (l.drop (i + 1)) + 1 := by
        unfold rowN
        rw [List.takeWhile_cons, h1]
        rfl
      have e2 : rowA (l[i] :: l.drop (i + 1)) = ((l[i].f0 == 39) && rowA (l.drop (i + 1))) := by
        unfold rowA
        rw [List.takeWhile_cons, h1]
        rfl
      rw [e1, e2, ← Nat.add_assoc, Nat.add_right_comm]
      by_cases hb : b = true
      · subst hb
        refine pos rfl ?_
        have := ih (l[i].f0 == 39)
        rw [Bool.true_and]
        exact this
      · have hb0 : b = false := by simpa using hb
        subst hb0
        exact neg (by simp) (ih false)
    · have h0 : l[i].f1 = false := by simpa using h1
      refine neg h1 (mk (fun _ => ?_))
      have e1 : rowN (l[i] :: l.drop (i + 1)) = 0 := by
        unfold rowN
        rw [List.takeWhile_cons, h0]
        rfl
      have e2 : rowA (l[i] :: l.drop (i + 1)) = true := by
        unfold rowA
        rw [List.takeWhile_cons, h0]
        rfl
      rw [e1, e2, Bool.and_true, Nat.add_zero]
theorem row_ev (l : List S36) (hl : l.length ≤ 1000000000000) : Ev (fun k => token_row.f k l) ((rowN l : Int), rowA l) := by
  simp only [token_row.f]
  have := row_l0 l hl l.length 0 true (by omega)
  simpa using this
theorem rowN_le (l : List S36) : rowN l ≤ l.length := (List.takeWhile_prefix _).length_le
theorem rowN_take (l : List S36) : l.take (rowN l) = l.takeWhile (·.f1) := by
  unfold rowN
  exact (List.prefix_iff_eq_take.1 (List.takeWhile_prefix _)).symm
end Go.Proofs.YtcenacecegleeaaDoor.Pure
