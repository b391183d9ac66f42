/- Package script's Parse, the plain side: what it answers. -/
import Derived.Test.YtegndehoiodjeaaDoorPH
import Derived.Test.YtegndehoiodjeaaDoorFSr
import Derived.Test.YtegndehoiodjeaaDoorFSp
import Derived.Test.YtegndehoiodjeaaDoorFCu
import Derived.Test.YtegndehoiodjeaaDoorPrint3
namespace Go.Proofs.YtegndehoiodjeaaDoor.Pure
open Go.RowKit Go.Lib Go.Proofs.YtegndehoiodjeaaDoor.Print Go.Proofs.YtegndehoiodjeaaDoor.U Go.Proofs.YtegndehoiodjeaaDoor.Q Go.Proofs.YtegndehoiodjeaaDoorW.PrintWords
set_option linter.unusedVariables false
set_option linter.unusedSimpArgs false

/-! ### the first line -/
theorem index_one (c : UInt8) : ∀ (s : List UInt8), (splitC c s = [s] ∧ Lib.index s [c] = -1) ∨ ∃ (p r : List UInt8), s = p ++ c :: r ∧ splitC c s = p :: splitC c r ∧ Lib.index s [c] = (p.length : Int)
  | [] => .inl ⟨rfl, by simp [Lib.index]⟩
  | b :: l => by
    by_cases hb : b = c
    · subst hb
      refine .inr ⟨[], l, rfl, by simp [splitC], by simp [Lib.index]⟩
    · have hp : ([c].isPrefixOf (b :: l)) = false := by simp [List.isPrefixOf]; exact fun e => hb e.symm
      have hi : Lib.index (b :: l) [c] = if Lib.index l [c] == -1 then -1 else Lib.index l [c] + 1 := by
        rw [Lib.index, hp]; rfl
      rcases index_one c l with ⟨h1, h2⟩ | ⟨p, r, h1, h2, h3⟩
      · left
        refine ⟨by simp only [splitC]; rw [if_neg hb, h1], by rw [hi, h2]; rfl⟩
      · right
        refine ⟨b :: p, r, by rw [h1]; rfl, by simp only [splitC]; rw [if_neg hb, h2], ?_⟩
        have hm : (Lib.index l [c] == -1) = false := beq_eq_false_iff_ne.2 (by rw [h3]; omega)
        rw [hi, hm, h3]
        simp
theorem cut_one (s : List UInt8) : (splitC 10 s = [s] ∧ Lib.cut s [10] = (s, [], false)) ∨ ∃ (p r : List UInt8), s = p ++ 10 :: r ∧ splitC 10 s = p :: splitC 10 r ∧ Lib.cut s [10] = (p, r, true) := by
  rcases index_one 10 s with ⟨h1, h2⟩ | ⟨p, r, h1, h2, h3⟩
  · left
    refine ⟨h1, ?_⟩
    unfold Lib.cut
    rw [h2, if_neg (by omega)]
  · right
    refine ⟨p, r, h1, h2, ?_⟩
    unfold Lib.cut
    rw [h3, if_pos (by omega), h1]
    simp

/-! ### read and Parse -/
theorem read_val (p : ByteArray) (hp : p.size ≤ 1000000000) : ∃ y b, script_read.f p = some (flatC y b) ∧ (match progL (L p) with | some c => y = ofCm c ∧ b = true | none => b = false) := by
  unfold script_read.f script_read.g
  rw [if_pos hp]
  unfold progL
  cases h : progP (splitC 32 (L p)) with
  | none => exact ⟨_, _, rfl, rfl⟩
  | some c =>
    refine ⟨_, _, rfl, ?_⟩
    simp only [Option.bind_some]
    by_cases hl : lineL c = L p
    · rw [if_pos hl]; exact ⟨rfl, decide_eq_true hl⟩
    · rw [if_neg hl]; exact decide_eq_false hl
/-- What is read, as the program has it. -/
def resP (r : List Cm × Int × Int) : List S29 × Int × Int := (r.1.map ofCm, r.2.1, r.2.2)
theorem size_L (s : ByteArray) : s.size = (L s).length := (L_len s).symm
theorem parse_l0 : ∀ (d : Nat) (x : ByteArray) (n : Nat) (acc : List Cm), (splitC 10 (L x)).length = d → x.size ≤ 1000000000 → n ≤ 2000000000 - d → d ≤ 2000000000 → acc.length + d ≤ 2000000000 →
    Ev (fun k => script_Parse.l0 k x (acc.map ofCm) (n : Int)) (resP (runL progL (splitC 10 (L x)) (n : Int) acc))
  | 0, x, n, acc, hd, _, _, _, _ => absurd (List.eq_nil_of_length_eq_zero hd) (splitC_ne 10 _)
  | d + 1, x, n, acc, hd, hx, hn, hd2, ha => by
    refine succ ?_
    simp only [script_Parse.l0]
    rw [toList_L]
    by_cases he : L x = []
    · rw [he]
      refine pos rfl ?_
      have : runL progL (splitC 10 []) (n : Int) acc = (acc, 0, 0) := by simp [splitC, runL]
      rw [this]
      exact Ev.now _
    refine neg he ?_
    unfold strings_Cut.f
    rw [if_pos (by omega)]
    simp only [Option.bind_some]
    rcases cut_one (L x) with ⟨h1, h2⟩ | ⟨p, r, h1, h2, h3⟩
    · have h2' : Lib.cut x.data.toList [10] = (L x, [], false) := h2
      rw [h2']
      obtain ⟨y, b, hr, _⟩ := read_val ⟨(L x).toArray⟩ (by rw [U.size_mk, L_len]; exact hx)
      rw [hr]
      simp only [Option.bind_some]
      have e : runL progL (splitC 10 (L x)) (n : Int) acc = ([], (n : Int), 16) := by
        rw [h1]
        simp only [runL]
        rw [if_neg he]
      rw [e]
      cases b with
      | true => exact pos rfl (neg (by simp) (Ev.now _))
      | false => exact neg (by simp [flatC]) (Ev.now _)
    · have h3' : Lib.cut x.data.toList [10] = (p, r, true) := h3
      rw [h3']
      have hxl : p.length + 1 + r.length = x.size := by rw [size_L, h1]; simp; omega
      obtain ⟨y, b, hr, hb⟩ := read_val ⟨p.toArray⟩ (by rw [U.size_mk]; omega)
      rw [hr]
      simp only [Option.bind_some]
      rw [L_mk] at hb
      obtain ⟨q, t, hqt⟩ := List.exists_cons_of_ne_nil (splitC_ne 10 r)
      have e : runL progL (splitC 10 (L x)) (n : Int) acc = match progL p with
        | none => ([], (n : Int), 16)
        | some c => runL progL (splitC 10 r) ((n : Int) + 1) (acc ++ [c]) := by
        rw [h2, hqt]
        simp only [runL]
        cases progL p <;> rfl
      rw [e]
      cases hp : progL p with
      | none =>
        rw [hp] at hb
        simp only at hb
        rw [hb]
        exact neg (by simp [flatC]) (Ev.now _)
      | some c =>
        rw [hp] at hb
        obtain ⟨hy, hb⟩ := hb
        rw [hb, hy]
        refine pos rfl (pos trivial (pos (by rw [List.length_map]; omega) ?_))
        have ih := parse_l0 d ⟨r.toArray⟩ (n + 1) (acc ++ [c]) (by rw [L_mk]; rw [h2] at hd; simpa using hd) (by rw [U.size_mk]; omega) (by omega) (by omega) (by simp; omega)
        rw [L_mk] at ih
        rw [w64 (x := (n : Int) + 1) (by omega) (by omega)]
        have e1 : ((n + 1 : Nat) : Int) = (n : Int) + 1 := by omega
        rw [e1, List.map_append] at ih
        exact ih
theorem splitC_count (s : List UInt8) : (splitC 10 s).length ≤ s.length + 1 := by
  induction s with
  | nil => simp [splitC]
  | cons b r ih =>
    simp only [splitC]
    split
    · simp; exact ih
    · obtain ⟨h, t, hs⟩ := List.exists_cons_of_ne_nil (splitC_ne 10 r)
      rw [hs] at ih ⊢
      simp at ih ⊢
      omega
theorem parse_ev (s : ByteArray) (hs : s.size ≤ 100000000) : Ev (fun k => script_Parse.f k s) (resP (readT (L s))) := by
  have h1 := splitC_count (L s)
  rw [L_len] at h1
  exact parse_l0 _ s 1 [] rfl (by omega) (by omega) (by omega) (by simp; omega)

/-! ### Print -/
theorem print_val (l : List S29) (h : ∀ x ∈ l, goodC x) (hl : (textL (l.map cmOf)).length ≤ 100000000000) : script_Print.f l = some ⟨(textL (l.map cmOf)).toArray⟩ := by
  unfold script_Print.f
  rw [if_pos ⟨h, hl⟩]
theorem cmOf_ok (x : S29) (h : goodC x) : (cmOf x).ok := ⟨h.1, h.2.1, h.2.2.1, h.2.2.2.1, rfl⟩

/-! ### what a program that does nothing does not answer -/
def one25 : S29 := ⟨1, 0, (⟨#[48]⟩ : ByteArray), ⟨0, (⟨#[]⟩ : ByteArray), (⟨#[]⟩ : ByteArray), (⟨#[]⟩ : ByteArray), (⟨#[]⟩ : ByteArray), (⟨#[]⟩ : ByteArray), (⟨#[]⟩ : ByteArray), (⟨#[]⟩ : ByteArray), (⟨#[]⟩ : ByteArray)⟩, ⟨false, (⟨#[]⟩ : ByteArray), 0⟩, (⟨#[]⟩ : ByteArray)⟩
theorem itoa0 : Lib.itoa 0 = [48] := by
  unfold Lib.itoa
  rw [if_neg (by omega)]
  exact dec_zero
theorem itoa1 : Lib.itoa 1 = [49] := by
  unfold Lib.itoa
  rw [if_neg (by omega), show (1 : Int).toNat = 1 from rfl, Lib.decDigits]
  rfl
theorem one_text : textL ([one25].map cmOf) = [49, 32, 48, 32, 48, 32, 48, 32, 48, 32, 120, 51, 48, 32, 120, 32, 120, 32, 120, 32, 120, 32, 120, 32, 120, 32, 120, 32, 120, 32, 120, 32, 120, 10] := by
  have e : lineW (cmOf one25) = [[49], [48], [48], [48], [48], [120, 51, 48], [120], [120], [120], [120], [120], [120], [120], [120], [120], [120]] := by
    unfold lineW cmOf one25
    simp only
    rw [itoa0, itoa1]
    decide +kernel
  unfold textL lineL
  simp only [List.map_cons, List.map_nil, e]
  decide +kernel
theorem one_good : goodC one25 := by
  refine ⟨by unfold inR one25; simp, by unfold inR one25; simp, by unfold one25; simp, by unfold inR one25; simp, ?_⟩
  intro s hs
  simp only [tsB, one25, List.mem_cons, List.not_mem_nil, or_false] at hs
  rcases hs with rfl | rfl | rfl | rfl | rfl | rfl | rfl | rfl | rfl | rfl | rfl
  all_goals simp [ByteArray.size]
theorem ofCm_cmOf (x : S29) : ofCm (cmOf x) = x := by
  obtain ⟨k, m, p, ⟨z, s1, s2, s3, s4, s5, s6, s7, s8⟩, ⟨neg, dg, ex⟩, tt⟩ := x
  simp [cmOf, ofCm, recOf, mkB, mk_L]
theorem answers_ev : Ev (fun k => figureheadlaw25_answers.f k) true := by
  simp only [figureheadlaw25_answers.f]
  have hp := print_val [one25] (fun x hx => by rw [List.mem_singleton.1 hx]; exact one_good) (by rw [one_text]; simp)
  rw [one_text] at hp
  have hp' : script_Print.f [(⟨1, 0, (⟨#[48]⟩ : ByteArray), ⟨0, (⟨#[]⟩ : ByteArray), (⟨#[]⟩ : ByteArray), (⟨#[]⟩ : ByteArray), (⟨#[]⟩ : ByteArray), (⟨#[]⟩ : ByteArray), (⟨#[]⟩ : ByteArray), (⟨#[]⟩ : ByteArray), (⟨#[]⟩ : ByteArray)⟩, ⟨false, (⟨#[]⟩ : ByteArray), 0⟩, (⟨#[]⟩ : ByteArray)⟩ : S29)] = _ := hp
  rw [hp']
  simp only [Option.bind_some]
  have h1 := parse_ev ⟨#[49, 32, 48, 32, 48, 32, 48, 32, 48, 32, 120, 51, 48, 32, 120, 32, 120, 32, 120, 32, 120, 32, 120, 32, 120, 32, 120, 32, 120, 32, 120, 32, 120, 10]⟩ (by simp [ByteArray.size])
  have h2 := parse_ev ⟨#[49, 10]⟩ (by simp [ByteArray.size])
  have r1 : readT (L ⟨#[49, 32, 48, 32, 48, 32, 48, 32, 48, 32, 120, 51, 48, 32, 120, 32, 120, 32, 120, 32, 120, 32, 120, 32, 120, 32, 120, 32, 120, 32, 120, 32, 120, 10]⟩) = ([cmOf one25], 0, 0) := by
    show readT [49, 32, 48, 32, 48, 32, 48, 32, 48, 32, 120, 51, 48, 32, 120, 32, 120, 32, 120, 32, 120, 32, 120, 32, 120, 32, 120, 32, 120, 32, 120, 32, 120, 10] = _
    rw [← one_text]
    exact read_text _ (fun c hc => by obtain ⟨x, hx, rfl⟩ := List.mem_map.1 hc; rw [List.mem_singleton.1 hx]; exact cmOf_ok _ one_good)
  have r2 : readT (L ⟨#[49, 10]⟩) = ([], 1, 16) := by
    show readT [49, 10] = _
    unfold readT
    have e1 : splitC 10 [49, 10] = [[49], []] := by decide
    have e2 : progL [49] = none := by
      unfold progL
      have : splitC 32 [49] = [[49]] := by decide
      rw [this]
      unfold progP
      rw [if_neg (by simp)]
      rfl
    rw [e1]
    simp only [runL]
    rw [e2]
  rw [r1] at h1
  rw [r2] at h2
  have hh := hex_ev ⟨#[16]⟩ (by simp [ByteArray.size])
  have e16 : hexL (L ⟨#[16]⟩) = [49, 48] := by decide +kernel
  rw [e16] at hh
  refine Ev.bind h1 (Ev.bind h2 ?_)
  have hrd : (rd_T29 (resP ([cmOf one25], 0, 0)).1 0).f2 = ⟨#[48]⟩ := by
    show (ofCm (cmOf one25)).f2 = _
    rw [ofCm_cmOf]
    rfl
  refine pos (by rw [toList_L]) (pos rfl (pos rfl (pos (by simp [resP]) (pos (by simp [resP]) (pos (by rw [hrd, toList_L]) (pos rfl (pos rfl (Ev.bind hh (mk (fun _ => ?_))))))))))
  rw [toList_L]
  rfl
end Go.Proofs.YtegndehoiodjeaaDoor.Pure
