/- Small words for the pure side: bytes as lists, rounds that are enough. -/
import Derived.Test.YteiifaijhbcjcaaDoorWMore
import Derived.Lib.Strings
namespace Go.Proofs.YteiifaijhbcjcaaDoor.U
open Go.RowKit Go.Proofs.YteiifaijhbcjcaaDoorW.PrintWords
set_option linter.unusedVariables false
set_option linter.unusedSimpArgs false

abbrev L (s : ByteArray) : List UInt8 := s.data.toList
theorem L_len (s : ByteArray) : (L s).length = s.size := data_length s
theorem L_inj {s t : ByteArray} (h : L s = L t) : s = t := ByteArray.ext (Array.toList_inj.1 h)
theorem L_app (s t : ByteArray) : L (s ++ t) = L s ++ L t := by simp [L, ByteArray.data_append]
theorem L_ext (s : ByteArray) (i j : Nat) : L (s.extract i j) = ((L s).drop i).take (j - i) := Lib.extract_data s i j
theorem toList_L (s : ByteArray) : s.toList = L s := Lib.toList_data s
theorem L_mk (l : List UInt8) : L ⟨l.toArray⟩ = l := by simp [L]
theorem mk_L (s : ByteArray) : (⟨(L s).toArray⟩ : ByteArray) = s := Lib.mk_data s
theorem size_mk (l : List UInt8) : (⟨l.toArray⟩ : ByteArray).size = l.length := by simp [ByteArray.size]
theorem size_app (s t : ByteArray) : (s ++ t).size = s.size + t.size := ByteArray.size_append
theorem size_ext (s : ByteArray) (i j : Nat) : (s.extract i j).size = min j s.size - i := ByteArray.size_extract

section
variable {α β : Type}
theorem succ {g : Nat → Option α} {r : α} (h : Ev (fun k => g (k + 1)) r) : Ev g r := Ev.step (fun _ => rfl) h
theorem pos {c : Prop} [Decidable c] {f g : Nat → Option α} {r : α} (h : c) (k : Ev f r) : Ev (fun n => if c then f n else g n) r := by
  simp only [if_pos h]
  exact k
theorem neg {c : Prop} [Decidable c] {f g : Nat → Option α} {r : α} (h : ¬ c) (k : Ev g r) : Ev (fun n => if c then f n else g n) r := by
  simp only [if_neg h]
  exact k
theorem mk {g : Nat → Option α} {r : α} (h : ∀ k, g k = some r) : Ev g r := ⟨0, fun k _ => h k⟩
theorem uniq {g : Nat → Option α} {r q : α} (h : Ev g r) (h2 : Ev g q) : r = q := by
  obtain ⟨K, h⟩ := h
  obtain ⟨K2, h2⟩ := h2
  exact Option.some.inj ((h (max K K2) (by omega)).symm.trans (h2 (max K K2) (by omega)))
end
theorem w64 {x : Int} (h0 : -9223372036854775808 ≤ x) (h1 : x ≤ 9223372036854775807) : wrap64 x = x := by unfold wrap64; omega
theorem rdOf_eq {α : Type} (d : α) (xs : List α) (i : Int) : rdOf d xs i = xs.getD i.toNat d := rfl
theorem rd_eq (xs : List Int) (i : Int) : rd xs i = xs.getD i.toNat 0 := rfl
end Go.Proofs.YteiifaijhbcjcaaDoor.U
