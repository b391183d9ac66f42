/- Package script's Hex, the plain side: what it answers. -/
import Derived.Test.YtegndehoiodjeaaDoorU
import Derived.Test.YtegndehoiodjeaaDoorQ
import Derived.Laws.BitsAllLaws
import Derived.Test.YtegndehoiodjeaaDoorPrint1
namespace Go.Proofs.YtegndehoiodjeaaDoor.Pure
open Go.RowKit Go.Lib Go.Proofs.YtegndehoiodjeaaDoor.Print Go.Proofs.YtegndehoiodjeaaDoor.U Go.Proofs.YtegndehoiodjeaaDoor.Q Go.Proofs.YtegndehoiodjeaaDoorW.PrintWords
set_option linter.unusedVariables false
set_option linter.unusedSimpArgs false

theorem btH_L (s : ByteArray) (i : Nat) : bt s (i : Int) = (((L s).getD i 0).toNat : Int) := by
  rw [← rd_bytesOf, rd_eq]
  unfold bytesOf
  rw [Int.toNat_natCast, List.getD_eq_getElem?_getD, List.getElem?_map, List.getD_eq_getElem?_getD]
  cases (L s)[i]? <;> rfl
theorem bt_hex : ∀ k : Fin 16, bt (⟨#[48, 49, 50, 51, 52, 53, 54, 55, 56, 57, 97, 98, 99, 100, 101, 102]⟩ : ByteArray) (k.1 : Int) = ((hd k.1).toNat : Int) := by decide +kernel
theorem and15 (x : Nat) (h : x < 256) : bits .and .u8 ((x : Nat) : Int) 15 = ((x % 16 : Nat) : Int) := by
  have h1 := u8_and ((x : Nat) : Int) 15 (by omega) (by omega) (by omega) (by omega)
  rw [h1, Int.toNat_natCast]
  have : x &&& 15 = x % 16 := Nat.and_two_pow_sub_one_eq_mod x 4
  rw [show (15 : Int).toNat = 15 from rfl, this]
theorem hexL_snoc (l : List UInt8) (b : UInt8) : hexL (l ++ [b]) = hexL l ++ [hd (b.toNat / 16), hd (b.toNat % 16)] := by
  induction l with
  | nil => rfl
  | cons a t ih => simp only [List.cons_append, hexL, ih]
theorem hex_l0 (s : ByteArray) (hs : s.size ≤ 1000000000000) : ∀ (d i : Nat) (acc : List Int), i + d = s.size → acc.length = 2 * i → L (strOfNums acc) = hexL ((L s).take i) → Ev (fun k => script_Hex.l0 k s acc (s.size : Int) (i : Int)) ⟨(hexL (L s)).toArray⟩
  | 0, i, acc, hd_, hl, he => by
    refine succ ?_
    simp only [script_Hex.l0]
    rw [List.take_of_length_le (by rw [L_len]; omega)] at he
    have e : strOfNums acc = ⟨(hexL (L s)).toArray⟩ := L_inj (by rw [he, L_mk])
    rw [e]
    exact neg (by omega) (Ev.now _)
  | d + 1, i, acc, hd_, hl, he => by
    refine succ ?_
    simp only [script_Hex.l0]
    have hi : i < (L s).length := by rw [L_len]; omega
    have hb : bt s (i : Int) = (((L s)[i]).toNat : Int) := by rw [btH_L, List.getD_eq_getElem?_getD, List.getElem?_eq_getElem hi]; rfl
    have hlt := ((L s)[i]).toNat_lt
    have hdv : (((L s)[i]).toNat : Int) / 16 = ((((L s)[i]).toNat / 16 : Nat) : Int) := by omega
    rw [hb, and15 _ hlt, hdv, bt_hex ⟨((L s)[i]).toNat / 16, by omega⟩, bt_hex ⟨((L s)[i]).toNat % 16, by omega⟩, w64 (by omega) (by omega)]
    simp only [Option.bind_some]
    have ih := hex_l0 s hs d (i + 1) (acc ++ [((hd (((L s)[i]).toNat / 16)).toNat : Int), ((hd (((L s)[i]).toNat % 16)).toNat : Int)]) (by omega) (by simp; omega) (by
      rw [List.take_succ_eq_append_getElem hi, hexL_snoc, ← he]
      simp [strOfNums, L])
    refine pos (by omega) (pos (by omega) (pos (by omega) (pos (by omega) (pos (by omega) (pos (by omega) (pos (by omega) (pos (by simp; omega) ?_)))))))
    simpa using ih
theorem hex_ev (s : ByteArray) (hs : s.size ≤ 1000000000000) : Ev (fun k => script_Hex.f k s) ⟨(hexL (L s)).toArray⟩ := by
  simp only [script_Hex.f]
  have := hex_l0 s hs s.size 0 [] (by omega) rfl rfl
  simpa using this
end Go.Proofs.YtegndehoiodjeaaDoor.Pure
