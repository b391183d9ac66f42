/- The law TokenPlain, the plain side: code points without a quote among them are plain tokens, one by one, each at its place. -/
import Derived.Test.YteiifaijhbcjcaaDoorPT
import Derived.Test.YteiifaijhbcjcaaDoorPrint11
namespace Go.Proofs.YteiifaijhbcjcaaDoor.Pure
open Go.RowKit Go.Lib Go.Proofs.YteiifaijhbcjcaaDoor.Print Go.Proofs.YteiifaijhbcjcaaDoor.U Go.Proofs.YteiifaijhbcjcaaDoor.Utf Go.Proofs.YteiifaijhbcjcaaDoorW.PrintWords
set_option linter.unusedVariables false
set_option linter.unusedSimpArgs false

theorem ints_rd (l : List Int) (i : Nat) (h : i < l.length) : rd l (i : Int) = l[i] := by
  rw [rd_eq, List.getD_eq_getElem?_getD, Int.toNat_natCast, List.getElem?_eq_getElem h]; rfl
/-- Plain tokens, from a place on. -/
def plainT : List Int → Int → List S31
  | [], _ => []
  | r :: t, a => ⟨r, false, a⟩ :: plainT t (a + lenE r)
theorem plainT_len : ∀ (l : List Int) (a : Int), (plainT l a).length = l.length
  | [], a => rfl
  | r :: t, a => by simp [plainT, plainT_len t]
theorem sc_plain : ∀ (l : List Int) (a : Int), (∀ r ∈ l, r ≠ 39) → Sc l a (-1) (plainT l a) (-1)
  | [], a, h => .nil _ _
  | r :: t, a, h => .other (h r (by simp)) (sc_plain t (a + lenE r) (fun x hx => h x (by simp [hx])))
theorem pr_plain : ∀ (l : List Int) (a : Int), prR (plainT l a) [] = l
  | [], a => rfl
  | r :: t, a => by
    simp only [plainT, prR]
    rw [if_neg (by simp), rowR_nil, List.nil_append, pr_plain t]
theorem ok_plain : ∀ (l : List Int) (a : Int), All l → (∀ r ∈ l, r ≠ 39) → (plainT l a).all okT = true
  | [], a, ha, h => rfl
  | r :: t, a, ha, h => by
    simp only [plainT, List.all_cons]
    rw [ok_plain t _ (fun x hx => ha x (by simp [hx])) (fun x hx => h x (by simp [hx]))]
    have h1 := ha r (by simp)
    have h2 := h r (by simp)
    simp [okT, h1, h2]
theorem plain_l1 (l : List Int) (ha : All l) (hn : ∀ r ∈ l, r ≠ 39) (hb : l.length ≤ 400) (s : ByteArray) (hs : L s = encAll l) : ∀ (d i : Nat) (p : Int), i + d = l.length → 0 ≤ p → p ≤ 4 * i → (plainT l 0).drop i = plainT (l.drop i) p → Ev (fun n => figureheadlaw13_TokenPlain.l1 n l s (plainT l 0) p (i : Int)) true
  | 0, i, p, hd, hp0, hp, he => by
    refine succ ?_
    simp only [figureheadlaw13_TokenPlain.l1]
    have h1 := (print_scan (plainT l 0) (by rw [plainT_len]; exact hb) (ok_plain l 0 ha hn)).1
    rw [pr_plain] at h1
    rw [answers13, h1]
    simp only [Option.bind_some]
    refine neg (by omega) (pos trivial (mk (fun _ => ?_)))
    rw [toList_L, toList_L, L_mk, hs]
    simp
  | d + 1, i, p, hd, hp0, hp, he => by
    refine succ ?_
    simp only [figureheadlaw13_TokenPlain.l1]
    have hi : i < l.length := by omega
    have hki : i < (plainT l 0).length := by rw [plainT_len]; omega
    rw [List.drop_eq_getElem_cons hi, List.drop_eq_getElem_cons hki] at he
    simp only [plainT] at he
    have he1 := (List.cons.inj he).1
    have he2 := (List.cons.inj he).2
    have hv := ha l[i] (List.getElem_mem _)
    have hle := lenE_range l[i]
    have hlen : ((encodeRuneZ l[i]).length : Int) = lenE l[i] := by unfold lenE encodeRune; simp
    rw [rdK_at _ i hki, ints_rd l i hi, he1, refBytes_val _ hv]
    simp only [Option.bind_some]
    rw [hlen, w64 (x := p + lenE l[i]) (by omega) (by omega), w64 (x := (i : Int) + 1) (by omega) (by omega)]
    refine pos (by omega) (pos (by omega) (pos (by rw [plainT_len]; omega) (neg (by simp) ?_)))
    have := plain_l1 l ha hn hb s hs d (i + 1) (p + lenE l[i]) (by omega) (by omega) (by omega) he2
    simpa using this
theorem plain_l0 (l : List Int) : ∀ (d i : Nat) (s : ByteArray), i + d = l.length → (l.length ≤ 400 ∨ i = 0) → All (l.take i) → (∀ r ∈ l.take i, r ≠ 39) → L s = encAll (l.take i) → s.size ≤ 4 * i → Ev (fun n => figureheadlaw13_TokenPlain.l0 n l s (i : Int)) true
  | 0, i, s, hd, hb, ha, hn, hs, hz => by
    refine succ ?_
    simp only [figureheadlaw13_TokenPlain.l0]
    rw [List.take_of_length_le (by omega)] at ha hn hs
    have hg := scan_good s (by omega) l ha hs (sc_plain l 0 hn)
    unfold fin13 at hg
    have hpl := plainT_len l 0
    rw [if_neg (by omega), if_neg (by omega)] at hg
    rw [hg]
    simp only [Option.bind_some]
    refine neg (by omega) (pos trivial ?_)
    refine succ ?_
    simp only [figureheadlaw13_TokenPlain.j2]
    refine neg (by rw [hpl]; simp) ?_
    have := plain_l1 l ha hn (by omega) s hs l.length 0 0 (by omega) (by omega) (by omega) rfl
    simpa using this
  | d + 1, i, s, hd, hb, ha, hn, hs, hz => by
    refine succ ?_
    simp only [figureheadlaw13_TokenPlain.l0]
    have hi : i < l.length := by omega
    rw [ints_rd l i hi, refScalar_val]
    simp only [Option.bind_some]
    refine pos (by omega) ?_
    have stop : Ev (fun n => figureheadlaw13_TokenPlain.j1 n l s (i : Int) true) true := by
      refine succ ?_
      simp only [figureheadlaw13_TokenPlain.j1]
      rw [answers13]
      exact pos trivial (Ev.now _)
    by_cases h4 : (l.length : Int) > 400
    · exact pos h4 stop
    refine neg h4 (pos (by omega) ?_)
    by_cases hv : Lib.validRune l[i] = true
    · refine pos hv ?_
      by_cases h39 : l[i] = 39
      · rw [show (l[i] == 39) = true by simpa using h39]
        exact stop
      · rw [show (l[i] == 39) = false from beq_eq_false_iff_ne.2 h39]
        refine succ ?_
        simp only [figureheadlaw13_TokenPlain.j1]
        rw [ints_rd l i hi, refBytes_val _ hv, w64 (by omega) (by omega)]
        simp only [Option.bind_some]
        have htk : l.take (i + 1) = l.take i ++ [l[i]] := List.take_succ_eq_append_getElem hi
        have hzs : (strOfNums (encodeRuneZ l[i])).size ≤ 4 := by rw [← L_len, L_str_enc]; exact (enc_len _).2
        have hz2 := size_app s (strOfNums (encodeRuneZ l[i]))
        refine neg (by simp) (pos (by omega) (pos (by omega) (pos (by omega) ?_)))
        have := plain_l0 l d (i + 1) (s ++ strOfNums (encodeRuneZ l[i])) (by omega) (.inl (by omega)) (fun r hr => by
          rw [htk] at hr
          rcases List.mem_append.1 hr with hr | hr
          · exact ha r hr
          · rw [List.mem_singleton.1 hr]; exact hv) (fun r hr => by
          rw [htk] at hr
          rcases List.mem_append.1 hr with hr | hr
          · exact hn r hr
          · rw [List.mem_singleton.1 hr]; exact h39) (by rw [L_app, L_str_enc, hs, htk, encAll_snoc]) (by omega)
        simpa using this
    · exact neg hv stop
theorem TokenPlain : figureheadlaw13_TokenPlain.Pure := by
  intro l hl hw
  refine Ev.rounds (r := true) ?_
  simp only [figureheadlaw13_TokenPlain.f]
  have := plain_l0 l l.length 0 ⟨#[]⟩ (by omega) (.inr rfl) (fun _ h => by simp at h) (fun _ h => by simp at h) rfl (by decide)
  simpa using this
end Go.Proofs.YteiifaijhbcjcaaDoor.Pure
