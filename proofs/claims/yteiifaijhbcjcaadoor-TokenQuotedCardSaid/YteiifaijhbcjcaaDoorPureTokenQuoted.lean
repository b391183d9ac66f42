/- The law TokenQuoted, the plain side: any code points between quotes, each quote twice, are quoted tokens, and nothing else. -/
import Derived.Test.YteiifaijhbcjcaaDoorPT
import Derived.Test.YteiifaijhbcjcaaDoorPrint10
namespace Go.Proofs.YteiifaijhbcjcaaDoor.Pure
open Go.RowKit Go.Lib Go.Proofs.YteiifaijhbcjcaaDoor.Print Go.Proofs.YteiifaijhbcjcaaDoor.U Go.Proofs.YteiifaijhbcjcaaDoor.Utf Go.Proofs.YteiifaijhbcjcaaDoorW.PrintWords
set_option linter.unusedVariables false
set_option linter.unusedSimpArgs false

theorem ints_rd (l : List Int) (i : Nat) (h : i < l.length) : rd l (i : Int) = l[i] := by
  rw [rd_eq, List.getD_eq_getElem?_getD, Int.toNat_natCast, List.getElem?_eq_getElem h]; rfl
theorem quoted_l1 (l : List Int) (k : List S31) (hb : l.length ≤ 1000000) (hk : k.map keyT = l.map (fun r => (r, true))) : ∀ (d i : Nat), i + d = l.length → Ev (fun n => figureheadlaw13_TokenQuoted.l1 n l k (i : Int)) true
  | 0, i, hd => by
    refine succ ?_
    simp only [figureheadlaw13_TokenQuoted.l1]
    rw [answers13]
    exact neg (by omega) (Ev.now _)
  | d + 1, i, hd => by
    refine succ ?_
    simp only [figureheadlaw13_TokenQuoted.l1]
    have hkl : k.length = l.length := by have := congrArg List.length hk; simpa using this
    have hi : i < l.length := by omega
    have hki : i < k.length := by omega
    have he : keyT k[i] = (l[i], true) := by
      have := congrArg (·[i]?) hk
      simpa [List.getElem?_map, List.getElem?_eq_getElem hi, List.getElem?_eq_getElem hki] using this
    rw [rdK_at k i hki, ints_rd l i hi, w64 (by omega) (by omega)]
    refine pos (by omega) (pos (by omega) (pos (by omega) (pos (congrArg Prod.fst he) (pos (congrArg Prod.snd he) ?_))))
    have := quoted_l1 l k hb hk d (i + 1) (by omega)
    simpa using this
theorem quoted_l0 (l : List Int) (hb : l.length ≤ 100) (h0 : 0 < l.length) : ∀ (d i : Nat) (s : ByteArray), i + d = l.length → All (l.take i) → L s = 39 :: encAll (quR (l.take i)) → s.size ≤ 8 * i + 1 → Ev (fun n => figureheadlaw13_TokenQuoted.l0 n l s (i : Int)) true
  | 0, i, s, hd, ha, hs, hz => by
    refine succ ?_
    simp only [figureheadlaw13_TokenQuoted.l0]
    rw [List.take_of_length_le (by omega)] at ha hs
    refine neg (by omega) (pos (by omega) ?_)
    rw [show rd l 0 = l[0] from ints_rd l 0 h0, answers13]
    by_cases h39 : l[0] = 39
    · exact pos h39 (Ev.now _)
    have hrow : rowR l = [39] ++ quR l ++ [39] := by
      unfold rowR
      rw [if_neg]
      intro e
      have := List.all_eq_true.1 e l[0] (List.getElem_mem _)
      exact h39 (by simpa using this)
    have hL : L (s ++ ⟨#[39]⟩) = encAll (rowR l) := by
      rw [L_app, hs, hrow, encAll_app, encAll_app, encAll_cons, encAll_nil, enc39, L39]
      rfl
    obtain ⟨out, h1, h2⟩ := sc_pr [] l 0 (Int.le_refl _) (fun _ h => by cases h)
    simp only [prR] at h2
    have hk : out.map keyT = l.map (fun r => (r, true)) := by simpa using h1
    have hkl : out.length = l.length := by have := congrArg List.length hk; simpa using this
    have hsz : (s ++ ⟨#[39]⟩ : ByteArray).size = s.size + 1 := size_app s _
    have hg := scan_good (s ++ ⟨#[39]⟩) (by omega) (rowR l) (rowR_all ha) hL h2
    unfold fin13 at hg
    rw [if_neg (by omega), if_neg (by omega)] at hg
    refine neg h39 (pos (by omega) ?_)
    rw [hg]
    simp only [Option.bind_some]
    refine pos trivial ?_
    refine succ ?_
    simp only [figureheadlaw13_TokenQuoted.j2]
    refine neg (by rw [hkl]; simp) ?_
    have := quoted_l1 l out (by omega) hk l.length 0 (by omega)
    simpa using this
  | d + 1, i, s, hd, ha, hs, hz => by
    refine succ ?_
    simp only [figureheadlaw13_TokenQuoted.l0]
    have hi : i < l.length := by omega
    rw [ints_rd l i hi, refScalar_val, w64 (by omega) (by omega), answers13]
    simp only [Option.bind_some]
    refine pos (by omega) (pos (by omega) ?_)
    by_cases hv : Lib.validRune l[i] = true
    · rw [refBytes_val _ hv]
      simp only [Option.bind_some]
      have htk : l.take (i + 1) = l.take i ++ [l[i]] := List.take_succ_eq_append_getElem hi
      have hal : All (l.take (i + 1)) := fun r hr => by
        rw [htk] at hr
        rcases List.mem_append.1 hr with hr | hr
        · exact ha r hr
        · rw [List.mem_singleton.1 hr]; exact hv
      have hzs : (strOfNums (encodeRuneZ l[i])).size ≤ 4 := by rw [← L_len, L_str_enc]; exact (enc_len _).2
      have hz2 := size_app s (strOfNums (encodeRuneZ l[i]))
      refine pos hv (pos (by omega) ?_)
      by_cases h39 : l[i] = 39
      · have hz3 : (s ++ strOfNums (encodeRuneZ l[i]) ++ ⟨#[39]⟩ : ByteArray).size = (s ++ strOfNums (encodeRuneZ l[i])).size + 1 := size_app _ _
        refine pos h39 (pos (by omega) ?_)
        have := quoted_l0 l hb h0 d (i + 1) (s ++ strOfNums (encodeRuneZ l[i]) ++ ⟨#[39]⟩) (by omega) hal
          (by rw [L_app, L_app, L_str_enc, hs, htk, quR_snoc, encAll_app, encAll_qR, L39]; unfold encQ; rw [if_pos h39, enc39]; simp) (by omega)
        simpa using this
      · refine neg h39 ?_
        have := quoted_l0 l hb h0 d (i + 1) (s ++ strOfNums (encodeRuneZ l[i])) (by omega) hal
          (by rw [L_app, L_str_enc, hs, htk, quR_snoc, encAll_app, encAll_qR]; unfold encQ; rw [if_neg h39]; simp) (by omega)
        simpa using this
    · exact neg hv (Ev.now _)
theorem TokenQuoted : figureheadlaw13_TokenQuoted.Pure := by
  intro l hl hw
  refine Ev.rounds (r := true) ?_
  simp only [figureheadlaw13_TokenQuoted.f]
  have all_ : ∀ b : Bool, (b = false → l.length ≤ 100 ∧ 0 < l.length) → Ev (fun k => figureheadlaw13_TokenQuoted.j0 k l b) true := fun b hb => by
    refine succ ?_
    simp only [figureheadlaw13_TokenQuoted.j0]
    rw [answers13]
    by_cases h : b = true
    · exact pos h (Ev.now _)
    · have hb2 := hb (by simpa using h)
      refine neg h ?_
      have := quoted_l0 l hb2.1 hb2.2 l.length 0 ⟨#[39]⟩ (by omega) (fun _ h => by simp at h) rfl (by decide)
      simpa using this
  by_cases h : (l.length : Int) > 100
  · exact pos h (all_ true (fun e => by cases e))
  · refine neg h (all_ _ (fun e => ?_))
    have := beq_eq_false_iff_ne.1 e
    omega
end Go.Proofs.YteiifaijhbcjcaaDoor.Pure
