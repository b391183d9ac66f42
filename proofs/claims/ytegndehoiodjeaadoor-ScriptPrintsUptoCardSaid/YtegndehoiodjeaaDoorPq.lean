/- The reference's Hex, Dec, Line and Print, the plain side: what they answer. -/
import Derived.Test.YtegndehoiodjeaaDoorPr
import Derived.Test.YtegndehoiodjeaaDoorFRh
import Derived.Test.YtegndehoiodjeaaDoorPN
import Derived.Test.YtegndehoiodjeaaDoorPrint7
import Derived.Test.YtegndehoiodjeaaDoorPrint8
namespace Go.Proofs.YtegndehoiodjeaaDoor.Pure
open Go.RowKit Go.Lib Go.Proofs.YtegndehoiodjeaaDoor.Print Go.Proofs.YtegndehoiodjeaaDoor.U Go.Proofs.YtegndehoiodjeaaDoor.Q Go.Proofs.YtegndehoiodjeaaDoorW.PrintWords
set_option linter.unusedVariables false
set_option linter.unusedSimpArgs false

/-! ### Hex -/
theorem refhex_val (s : ByteArray) (hs : s.size ≤ 1000000000000) : figureheadref25_Hex.f s = some ⟨(hexL (L s)).toArray⟩ := by
  unfold figureheadref25_Hex.f
  rw [if_pos hs]

/-! ### Dec -/
theorem one_num (x : Nat) (h : x < 256) : strOfNums [(x : Int)] = ⟨#[UInt8.ofNat x]⟩ := by
  have := strOfNums_map [UInt8.ofNat x]
  simp only [List.map_cons, List.map_nil] at this
  rw [show ((UInt8.ofNat x).toNat : Int) = (x : Int) by rw [UInt8.toNat_ofNat']; omega] at this
  exact this
theorem cons_mk (b : UInt8) (s : ByteArray) : (⟨#[b]⟩ : ByteArray) ++ s = ⟨(b :: L s).toArray⟩ := L_inj (by rw [L_app, L_mk, L_mk]; rfl)
theorem up_l0 : ∀ (d n : Nat) (acc : ByteArray), n < 10 ^ (d + 1) → n < 18446744073709551616 → acc.size + d ≤ 1000 → Ev (fun k => figureheadref25_up.l0 k (n : Int) acc) ⟨(Lib.decDigits n ++ L acc).toArray⟩
  | 0, n, acc, hn, hn2, ha => by
    refine succ ?_
    simp only [figureheadref25_up.l0]
    have hn10 : n < 10 := by simpa using hn
    refine neg (by omega) ?_
    simp only [Option.bind_some]
    have e : (IntKind.u64.wrap (48 + (n : Int))) % 256 = ((48 + n : Nat) : Int) := by rw [u64_in _ (by omega) (by omega)]; omega
    rw [e, one_num _ (by omega), cons_mk, Lib.decDigits, dif_pos hn10]
    have o1 : (⟨#[UInt8.ofNat (48 + n)]⟩ : ByteArray).size = 1 := rfl
    refine pos (by rw [o1]; omega) ?_
    exact Ev.now _
  | d + 1, n, acc, hn, hn2, ha => by
    by_cases h10 : n < 10
    · exact up_l0 0 n acc (by simpa using h10) hn2 (by omega)
    · refine succ ?_
      simp only [figureheadref25_up.l0]
      refine pos (by omega) ?_
      simp only [Option.bind_some]
      have em : Int.tmod (n : Int) 10 = ((n % 10 : Nat) : Int) := rfl
      have ed : Int.tdiv (n : Int) 10 = ((n / 10 : Nat) : Int) := rfl
      have e : (IntKind.u64.wrap (48 + ((n % 10 : Nat) : Int))) % 256 = ((48 + n % 10 : Nat) : Int) := by rw [u64_in _ (by omega) (by omega)]; omega
      rw [em, ed, e, one_num _ (by omega), cons_mk, u64_in _ (by omega) (by omega)]
      have o1 : (⟨#[UInt8.ofNat (48 + n % 10)]⟩ : ByteArray).size = 1 := rfl
      refine pos (by rw [o1]; omega) ?_
      have ih := up_l0 d (n / 10) ⟨(UInt8.ofNat (48 + n % 10) :: L acc).toArray⟩ (by rw [Nat.pow_succ] at hn; omega) (by omega) ?_
      rotate_left
      · rw [U.size_mk, List.length_cons, L_len]; omega
      rw [L_mk] at ih
      have e2 : Lib.decDigits n = Lib.decDigits (n / 10) ++ [UInt8.ofNat (48 + n % 10)] := by
        conv => lhs; rw [Lib.decDigits, dif_neg h10]
      rw [e2, List.append_assoc]
      exact ih
theorem dec_ev (n : Int) (h0 : -9223372036854775808 ≤ n) (h1 : n ≤ 9223372036854775807) : Ev (fun k => figureheadref25_Dec.f k n) ⟨(Lib.itoa n).toArray⟩ := by
  have up : ∀ m : Nat, m < 18446744073709551616 → Ev (fun k => figureheadref25_up.f k (m : Int)) ⟨(Lib.decDigits m).toArray⟩ := fun m hm => by
    simp only [figureheadref25_up.f]
    have := up_l0 20 m ⟨#[]⟩ (by omega) hm (by simp [ByteArray.size])
    have e : Lib.decDigits m ++ L (⟨#[]⟩ : ByteArray) = Lib.decDigits m := List.append_nil _
    rw [e] at this
    exact this
  simp only [figureheadref25_Dec.f]
  unfold Lib.itoa
  by_cases hn : n < 0
  · rw [if_pos hn]
    refine neg (by omega) ?_
    have e : IntKind.u64.wrap ((IntKind.u64.wrap (wrap64 (-(wrap64 (n + 1))))) + 1) = ((n.natAbs : Nat) : Int) := by
      rw [w64 (x := n + 1) (by omega) (by omega), w64 (x := -(n + 1)) (by omega) (by omega), u64_in (-(n + 1)) (by omega) (by omega), u64_in (-(n + 1) + 1) (by omega) (by omega)]
      omega
    rw [e]
    refine Ev.bind (up n.natAbs (by omega)) (pos ?_ ?_)
    · have := dec_len 20 n.natAbs (by omega)
      rw [U.size_mk]; omega
    · rw [cons_mk, L_mk]
      exact Ev.now _
  · rw [if_neg hn]
    refine pos (by omega) ?_
    have e : IntKind.u64.wrap n = ((n.toNat : Nat) : Int) := by rw [u64_in _ (by omega) (by omega)]; omega
    rw [e]
    exact Ev.bind (up n.toNat (by omega)) (Ev.now _)
/-! ### Line -/
theorem bit_val (b : Bool) : figureheadref25_bit.f b = some ⟨(bitL b).toArray⟩ := by
  unfold figureheadref25_bit.f bitL
  cases b <;> rfl
theorem line_l0 (ts : List ByteArray) (hts : ∀ t ∈ ts, t.size ≤ 1000000000) (hn : ts.length ≤ 11) : ∀ (d i : Nat) (acc : ByteArray), i + d = ts.length → acc.size ≤ 1000 + 3000000000 * i →
    Ev (fun k => figureheadref25_Line.l0 k acc ts (ts.length : Int) (i : Int)) ⟨(L acc ++ tailT (ts.drop i) ++ [10]).toArray⟩
  | 0, i, acc, hd_, ha => by
    refine succ ?_
    simp only [figureheadref25_Line.l0]
    rw [List.drop_of_length_le (by omega)]
    refine neg (by omega) (pos (by omega) ?_)
    have e : acc ++ (⟨#[10]⟩ : ByteArray) = ⟨(L acc ++ tailT [] ++ [10]).toArray⟩ := L_inj (by rw [L_app, L_mk]; simp [tailT])
    rw [e]
    exact Ev.now _
  | d + 1, i, acc, hd_, ha => by
    refine succ ?_
    simp only [figureheadref25_Line.l0]
    have hi : i < ts.length := by omega
    have hrd : rdOf ByteArray.empty ts (i : Int) = ts[i] := by rw [rdOf_eq, Int.toNat_natCast, List.getD_eq_getElem?_getD, List.getElem?_eq_getElem hi]; rfl
    have hsz := hts ts[i] (List.getElem_mem hi)
    rw [hrd, refhex_val _ (by omega), w64 (x := (i : Int) + 1) (by omega) (by omega)]
    simp only [Option.bind_some]
    have hhl : (hexL (L ts[i])).length = 2 * ts[i].size := by rw [hexL_len, L_len]
    have o2 : (acc ++ (⟨#[32, 120]⟩ : ByteArray)).size = acc.size + 2 := by rw [ByteArray.size_append]; rfl
    have o4 : (⟨(hexL (L ts[i])).toArray⟩ : ByteArray).size = 2 * ts[i].size := by rw [U.size_mk, hhl]
    refine pos (by omega) (pos (by omega) (pos (by omega) (pos (by omega) (pos (by rw [o2, o4]; omega) ?_))))
    have ih := line_l0 ts hts hn d (i + 1) (acc ++ (⟨#[32, 120]⟩ : ByteArray) ++ ⟨(hexL (L ts[i])).toArray⟩) (by omega) (by rw [ByteArray.size_append, o2, o4]; omega)
    have e : L (acc ++ (⟨#[32, 120]⟩ : ByteArray) ++ ⟨(hexL (L ts[i])).toArray⟩) ++ tailT (ts.drop (i + 1)) = L acc ++ tailT (ts.drop i) := by
      have o5 : L (⟨#[32, 120]⟩ : ByteArray) = [32, 120] := rfl
      rw [List.drop_eq_getElem_cons hi, L_app, L_app, L_mk, o5]
      simp only [tailT, List.map_cons, List.flatten_cons, List.append_assoc, List.cons_append, List.nil_append]
    rw [e] at ih
    have e1 : ((i + 1 : Nat) : Int) = (i : Int) + 1 := by omega
    rw [e1] at ih
    exact ih
theorem sz_itoa (n : Int) (h0 : -9223372036854775808 ≤ n) (h1 : n ≤ 9223372036854775807) : (⟨(Lib.itoa n).toArray⟩ : ByteArray).size ≤ 21 := by rw [U.size_mk]; exact itoa_len n h0 h1
theorem line_ev (x : S29) (h : goodC x) : Ev (fun k => figureheadref25_Line.f k x.f0 x.f1 x.f2 x.f3.f0 x.f3.f1 x.f3.f2 x.f3.f3 x.f3.f4 x.f3.f5 x.f3.f6 x.f3.f7 x.f3.f8 x.f4.f0 x.f4.f1 x.f4.f2 x.f5) (lineB x) := by
  obtain ⟨g1, g2, g3, g4, g5⟩ := h
  simp only [figureheadref25_Line.f]
  rw [w64 (x := x.f3.f0) (by omega) (by omega)]
  have z1 := sz_itoa x.f0 g1.1 g1.2
  have z2 := sz_itoa x.f1 g2.1 g2.2
  have z3 := sz_itoa x.f3.f0 (by omega) (by omega)
  have z4 := sz_itoa x.f4.f2 g4.1 g4.2
  have z5 : (⟨(bitL x.f4.f0).toArray⟩ : ByteArray).size = 1 := by rw [U.size_mk]; unfold bitL; split <;> rfl
  have o1 : (⟨#[32]⟩ : ByteArray).size = 1 := rfl
  refine Ev.bind (dec_ev x.f0 g1.1 g1.2) (pos (by omega) (Ev.bind (dec_ev x.f1 g2.1 g2.2) (pos (by simp only [ByteArray.size_append, o1]; omega) (pos (by simp only [ByteArray.size_append, o1]; omega) (Ev.bind (dec_ev x.f3.f0 (by omega) (by omega)) (pos (by simp only [ByteArray.size_append, o1]; omega) (pos (by simp only [ByteArray.size_append, o1]; omega) (Ev.bind (dec_ev x.f4.f2 g4.1 g4.2) (pos (by simp only [ByteArray.size_append, o1]; omega) (pos (by simp only [ByteArray.size_append, o1]; omega) ?_))))))))))
  rw [bit_val]
  simp only [Option.bind_some]
  refine pos (by simp only [ByteArray.size_append, o1]; omega) ?_
  have hl := line_l0 (tsB x) g5 (by simp [tsB]) 11 0 (((((((((⟨(Lib.itoa x.f0).toArray⟩ : ByteArray) ++ (⟨#[32]⟩ : ByteArray)) ++ (⟨(Lib.itoa x.f1).toArray⟩ : ByteArray)) ++ (⟨#[32]⟩ : ByteArray)) ++ (⟨(Lib.itoa x.f3.f0).toArray⟩ : ByteArray)) ++ (⟨#[32]⟩ : ByteArray)) ++ (⟨(Lib.itoa x.f4.f2).toArray⟩ : ByteArray)) ++ (⟨#[32]⟩ : ByteArray)) ++ (⟨(bitL x.f4.f0).toArray⟩ : ByteArray)) (by simp [tsB]) (by simp only [ByteArray.size_append, o1]; omega)
  have e : lineB x = ⟨(L (((((((((⟨(Lib.itoa x.f0).toArray⟩ : ByteArray) ++ (⟨#[32]⟩ : ByteArray)) ++ (⟨(Lib.itoa x.f1).toArray⟩ : ByteArray)) ++ (⟨#[32]⟩ : ByteArray)) ++ (⟨(Lib.itoa x.f3.f0).toArray⟩ : ByteArray)) ++ (⟨#[32]⟩ : ByteArray)) ++ (⟨(Lib.itoa x.f4.f2).toArray⟩ : ByteArray)) ++ (⟨#[32]⟩ : ByteArray)) ++ (⟨(bitL x.f4.f0).toArray⟩ : ByteArray)) ++ tailT ((tsB x).drop 0) ++ [10]).toArray⟩ := by
    have o3 : L (⟨#[32]⟩ : ByteArray) = [32] := rfl
    unfold lineB
    rw [line_parts]
    simp only [L_app, L_mk, o3, List.drop_zero]
  rw [e]
  exact hl

/-! ### Print -/
theorem refprint_l0 (l : List S29) (hg : ∀ x ∈ l, goodC x) (hl : (textL (l.map cmOf)).length ≤ 100000000000) (hn : l.length ≤ 2000000000) : ∀ (d i : Nat), i + d = l.length → Ev (fun k => figureheadref25_Print.l0 k l ⟨(textL ((l.take i).map cmOf)).toArray⟩ (i : Int)) ⟨(textL (l.map cmOf)).toArray⟩
  | 0, i, hd_ => by
    refine succ ?_
    simp only [figureheadref25_Print.l0]
    rw [List.take_of_length_le (by omega)]
    exact neg (by omega) (Ev.now _)
  | d + 1, i, hd_ => by
    refine succ ?_
    simp only [figureheadref25_Print.l0]
    have hi : i < l.length := by omega
    have hrd : rd_T29 l (i : Int) = l[i] := by
      unfold rd_T29
      rw [Int.toNat_natCast, List.getD_eq_getElem?_getD, List.getElem?_eq_getElem hi]; rfl
    rw [hrd, w64 (x := (i : Int) + 1) (by omega) (by omega)]
    have ih := refprint_l0 l hg hl hn d (i + 1) (by omega)
    have e : (⟨(textL ((l.take i).map cmOf)).toArray⟩ : ByteArray) ++ lineB l[i] = ⟨(textL ((l.take (i + 1)).map cmOf)).toArray⟩ := by
      apply L_inj
      unfold lineB
      rw [L_app, L_mk, L_mk, L_mk, List.take_succ_eq_append_getElem hi, List.map_append]
      exact (textL_snoc _ _).symm
    have hsz : (textL ((l.take (i + 1)).map cmOf)).length ≤ 100000000000 := by
      have := textL_take (l.map cmOf) (i + 1)
      rw [← List.map_take] at this
      omega
    refine pos (by omega) (pos (by omega) (Ev.bind (line_ev l[i] (hg _ (List.getElem_mem hi))) (pos ?_ ?_)))
    · have := congrArg ByteArray.size e
      rw [ByteArray.size_append, U.size_mk ((textL ((l.take (i + 1)).map cmOf)))] at this
      omega
    · rw [e]
      have e1 : ((i + 1 : Nat) : Int) = (i : Int) + 1 := by omega
      rw [e1] at ih
      exact ih
theorem refprint_ev (l : List S29) (hg : ∀ x ∈ l, goodC x) (hl : (textL (l.map cmOf)).length ≤ 100000000000) (hn : l.length ≤ 2000000000) : Ev (fun k => figureheadref25_Print.f k l) ⟨(textL (l.map cmOf)).toArray⟩ := by
  simp only [figureheadref25_Print.f]
  exact refprint_l0 l hg hl hn l.length 0 (by omega)

end Go.Proofs.YtegndehoiodjeaaDoor.Pure
