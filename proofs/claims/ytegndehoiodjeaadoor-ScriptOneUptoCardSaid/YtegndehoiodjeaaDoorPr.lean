/- The laws of lines, the plain side: sizes, what is read is good. -/
import Derived.Test.YtegndehoiodjeaaDoorPs
import Derived.Test.YtegndehoiodjeaaDoorFTl
namespace Go.Proofs.YtegndehoiodjeaaDoor.Pure
open Go.RowKit Go.Lib Go.Proofs.YtegndehoiodjeaaDoor.Print Go.Proofs.YtegndehoiodjeaaDoor.U Go.Proofs.YtegndehoiodjeaaDoor.Q Go.Proofs.YtegndehoiodjeaaDoorW.PrintWords
set_option linter.unusedVariables false
set_option linter.unusedSimpArgs false

theorem itoa_len (n : Int) (h0 : -9223372036854775808 ≤ n) (h1 : n ≤ 9223372036854775807) : (Lib.itoa n).length ≤ 21 := by
  unfold Lib.itoa
  split
  · have := dec_len 18 n.natAbs (by omega)
    simp only [List.length_cons]; omega
  · have := dec_len 18 n.toNat (by omega)
    omega

/-- A line's texts. -/
def tailT (ts : List ByteArray) : List UInt8 := (ts.map fun t => 32 :: 120 :: hexL (L t)).flatten
theorem line_parts (x : S29) : lineL (cmOf x) = Lib.itoa x.f0 ++ [32] ++ Lib.itoa x.f1 ++ [32] ++ Lib.itoa x.f3.f0 ++ [32] ++ Lib.itoa x.f4.f2 ++ [32] ++ bitL x.f4.f0 ++ tailT (tsB x) := by
  unfold lineL lineW cmOf tailT tsB textW
  rw [List.cons_append, Lib.join_cons]
  simp [Lib.joinTail]
theorem i64_wf {x : Int} (h : (Lit.int .i64 x).wf = true) : inR x := by
  simp [Lit.wf] at h
  have e0 : IntKind.i64.min = -9223372036854775808 := by decide
  have e1 : IntKind.i64.max = 9223372036854775807 := by decide
  unfold inR
  omega
theorem i32_wf {x : Int} (h : (Lit.int .i32 x).wf = true) : -2147483648 ≤ x ∧ x ≤ 2147483647 := by
  simp [Lit.wf] at h
  have e0 : IntKind.i32.min = -2147483648 := by decide
  have e1 : IntKind.i32.max = 2147483647 := by decide
  omega
theorem good_of (x : S29) (h : wf29 x) (hb : bulk29 x ≤ 1048576) : goodC x := by
  obtain ⟨h0, h1, h2, h3, h4, h5⟩ := h
  refine ⟨i64_wf h0, i64_wf h1, i32_wf h3.1, i64_wf h4.2.2, fun s hs => ?_⟩
  unfold bulk29 bulk25 bulk27 at hb
  simp only [tsB, List.mem_cons, List.not_mem_nil, or_false] at hs
  rcases hs with rfl | rfl | rfl | rfl | rfl | rfl | rfl | rfl | rfl | rfl | rfl <;> omega
theorem bulk_le {l : List S29} {x : S29} (h : x ∈ l) : bulk29 x ≤ (l.map bulk29).sum := by
  induction l with
  | nil => cases h
  | cons a t ih =>
    simp only [List.map_cons, List.sum_cons]
    rcases List.mem_cons.1 h with rfl | h
    · omega
    · have := ih h
      omega
theorem bulk_pos (x : S29) : 1 ≤ bulk29 x := by unfold bulk29; omega
theorem len_bulk (l : List S29) : l.length ≤ (l.map bulk29).sum := by
  induction l with
  | nil => simp
  | cons a t ih =>
    have := bulk_pos a
    simp only [List.map_cons, List.sum_cons, List.length_cons]
    omega
theorem line_len (x : S29) (h : goodC x) : (lineL (cmOf x)).length + 1 ≤ 10 * bulk29 x := by
  obtain ⟨g1, g2, g3, g4, g5⟩ := h
  have z1 := itoa_len x.f0 g1.1 g1.2
  have z2 := itoa_len x.f1 g2.1 g2.2
  have z3 := itoa_len x.f3.f0 (by omega) (by omega)
  have z4 := itoa_len x.f4.f2 g4.1 g4.2
  have z5 : (bitL x.f4.f0).length = 1 := by unfold bitL; split <;> rfl
  rw [line_parts]
  unfold bulk29 bulk25 bulk27
  simp only [List.length_append, List.length_cons, List.length_nil, tailT, tsB, List.map_cons, List.map_nil, List.flatten_cons, List.flatten_nil, hexL_len, L_len, z5]
  omega
theorem text_len (l : List S29) (h : ∀ x ∈ l, goodC x) : (textL (l.map cmOf)).length ≤ 10 * (l.map bulk29).sum := by
  induction l with
  | nil => simp [textL]
  | cons x t ih =>
    have h1 := line_len x (h x (by simp))
    have h2 := ih (fun y hy => h y (by simp [hy]))
    have e : textL ((x :: t).map cmOf) = (lineL (cmOf x) ++ [10]) ++ textL (t.map cmOf) := by simp [textL]
    rw [e]
    simp only [List.length_append, List.length_cons, List.length_nil, List.map_cons, List.sum_cons]
    omega
theorem all_back (l : List S29) : (l.map cmOf).map ofCm = l := by
  rw [List.map_map]
  have : (ofCm ∘ cmOf) = id := funext ofCm_cmOf
  rw [this, List.map_id]
theorem all_back2 (m : List Cm) (h : ∀ c ∈ m, c.ok) : (m.map ofCm).map cmOf = m := by
  rw [List.map_map]
  conv => rhs; rw [← List.map_id m]
  exact List.map_congr_left (fun c hc => cm_of c (h c hc))
/-- What a text is read as: its commands, whose text it is; or nothing. -/
theorem run_cases : ∀ (ps : List (List UInt8)) (n : Int) (acc : List Cm), ps ≠ [] → (∃ m, runL progL ps n acc = (acc ++ m, 0, 0) ∧ join ps [10] = textL m ∧ ∀ c ∈ m, c.ok) ∨ ∃ k, n ≤ k ∧ runL progL ps n acc = ([], k, 16)
  | [], n, acc, h => absurd rfl h
  | [p], n, acc, _ => by
    simp only [runL]
    by_cases hp : p = []
    · rw [if_pos hp]
      exact .inl ⟨[], by simp, by rw [hp, join_one]; rfl, fun c hc => by cases hc⟩
    · rw [if_neg hp]
      exact .inr ⟨n, Int.le_refl _, rfl⟩
  | p :: q :: t, n, acc, _ => by
    simp only [runL]
    cases hp : progL p with
    | none => exact .inr ⟨n, Int.le_refl _, rfl⟩
    | some c =>
      have hc := (prog_iff p c).1 hp
      rcases run_cases (q :: t) (n + 1) (acc ++ [c]) (by simp) with ⟨m, h1, h2, h3⟩ | ⟨k, h1, h2⟩
      · refine .inl ⟨c :: m, by simp only; rw [h1]; simp, ?_, fun d hd => ?_⟩
        · have e : join (p :: q :: t) [10] = p ++ 10 :: join (q :: t) [10] := by
            rw [join_cons, join_cons]
            simp [joinTail]
          rw [e, h2, hc.1]
          simp [textL]
        · rcases List.mem_cons.1 hd with rfl | hd
          · exact hc.2
          · exact h3 d hd
      · exact .inr ⟨k, by omega, h2⟩
theorem read_cases (s : List UInt8) : (∃ m, readT s = (m, 0, 0) ∧ textL m = s ∧ ∀ c ∈ m, c.ok) ∨ ∃ k, 1 ≤ k ∧ readT s = ([], k, 16) := by
  unfold readT
  rcases run_cases (splitC 10 s) 1 [] (splitC_ne 10 s) with ⟨m, h1, h2, h3⟩ | ⟨k, h1, h2⟩
  · exact .inl ⟨m, by rw [h1]; rfl, by rw [← h2, join_split], h3⟩
  · exact .inr ⟨k, h1, h2⟩
theorem mem_flat {l : List (List UInt8)} {x : List UInt8} (h : x ∈ l) : x.length ≤ l.flatten.length := by
  induction l with
  | nil => cases h
  | cons a t ih =>
    rw [List.flatten_cons, List.length_append]
    rcases List.mem_cons.1 h with rfl | h
    · omega
    · have := ih h
      omega
theorem good_back (m : List Cm) (h : ∀ c ∈ m, c.ok) (hl : (textL m).length ≤ 100000000) : ∀ x ∈ m.map ofCm, goodC x := by
  intro x hx
  obtain ⟨c, hc, rfl⟩ := List.mem_map.1 hx
  have hok := h c hc
  refine ⟨hok.1, hok.2.1, hok.2.2.1, hok.2.2.2.1, fun s hs => ?_⟩
  have h1 : (32 :: 120 :: hexL (L s)).length ≤ (tailT (tsB (ofCm c))).length := mem_flat (List.mem_map_of_mem hs)
  have h2 : (lineL c ++ [10]).length ≤ (textL m).length := mem_flat (List.mem_map_of_mem hc)
  have h3 := congrArg List.length (line_parts (ofCm c))
  rw [cm_of c hok] at h3
  simp only [List.length_append, List.length_cons, List.length_nil, hexL_len, L_len] at h1 h2 h3
  omega
theorem len_text (m : List Cm) : m.length ≤ (textL m).length := by
  induction m with
  | nil => simp
  | cons c t ih =>
    have e : textL (c :: t) = (lineL c ++ [10]) ++ textL t := by simp [textL]
    rw [e]
    simp only [List.length_append, List.length_cons, List.length_nil]
    omega
end Go.Proofs.YtegndehoiodjeaaDoor.Pure
