/- Layer 13, the plain side: what a pattern's code points are as tokens (a relation), and that the scanner and the reference both find just that. -/
import Derived.Test.YtcenacecegleeaaDoorFSn
import Derived.Test.YtcenacecegleeaaDoorPU
import Derived.Test.YtcenacecegleeaaDoorPrint9
import Derived.Test.YtcenacecegleeaaDoorPrint10
namespace Go.Proofs.YtcenacecegleeaaDoor.Pure
open Go.RowKit Go.Lib Go.Proofs.YtcenacecegleeaaDoor.Print Go.Proofs.YtcenacecegleeaaDoor.U Go.Proofs.YtcenacecegleeaaDoor.Utf Go.Proofs.YtcenacecegleeaaDoorW.PrintWords
set_option linter.unusedVariables false
set_option linter.unusedSimpArgs false

/-- Code points, scanned from a place on: the tokens, and where quotes stand open behind them. -/
inductive Sc : List Int → Int → Int → List S36 → Int → Prop where
  | nil (a op : Int) : Sc [] a op [] op
  | pair {m : List Int} {a op o : Int} {out : List S36} (h : Sc m (a + 2) op out o) : Sc (39 :: 39 :: m) a op (⟨39, true, a⟩ :: out) o
  | quote {m : List Int} {a op o : Int} {out : List S36} (hm : m.head? ≠ some 39) (h : Sc m (a + 1) (if op < 0 then a else -1) out o) : Sc (39 :: m) a op out o
  | other {r : Int} {m : List Int} {a op o : Int} {out : List S36} (hr : r ≠ 39) (h : Sc m (a + lenE r) op out o) : Sc (r :: m) a op (⟨r, !decide (op < 0), a⟩ :: out) o
theorem sc_ex : ∀ (n : Nat) (m : List Int) (a op : Int), m.length ≤ n → ∃ out o, Sc m a op out o
  | _, [], a, op, _ => ⟨[], op, .nil a op⟩
  | 0, r :: m, a, op, h => by simp at h
  | n + 1, r :: m, a, op, h => by
    have hl : m.length ≤ n := by simpa using h
    by_cases hr : r = 39
    · subst hr
      match m, hl with
      | [], _ => exact ⟨[], _, .quote (by simp) (.nil _ _)⟩
      | r2 :: m2, hl =>
        by_cases h2 : r2 = 39
        · subst h2
          obtain ⟨out, o, hs⟩ := sc_ex n m2 (a + 2) op (by simp at hl; omega)
          exact ⟨_, o, .pair hs⟩
        · obtain ⟨out, o, hs⟩ := sc_ex n (r2 :: m2) (a + 1) (if op < 0 then a else -1) hl
          exact ⟨out, o, .quote (by simpa using h2) hs⟩
    · obtain ⟨out, o, hs⟩ := sc_ex n m (a + lenE r) op hl
      exact ⟨_, o, .other hr hs⟩
theorem sc_go {m : List Int} {a op o : Int} {out : List S36} (h : Sc m a op out o) : ∀ (f : Nat) (ps : List S36), m.length ≤ f → scanGo f m a op ps = (ps ++ out, o) := by
  induction h with
  | nil a op =>
    intro f ps hf
    cases f <;> simp [scanGo]
  | pair h ih =>
    intro f ps hf
    obtain ⟨f, rfl⟩ : ∃ g, f = g + 1 := ⟨f - 1, by simp at hf; omega⟩
    simp only [scanGo]
    rw [if_pos trivial, if_pos trivial, ih f _ (by simp at hf; omega)]
    simp
  | @quote m a op o out hm h ih =>
    intro f ps hf
    obtain ⟨f, rfl⟩ : ∃ g, f = g + 1 := ⟨f - 1, by simp at hf; omega⟩
    have hf' : m.length ≤ f := by simpa using hf
    cases m with
    | nil =>
      simp only [scanGo]
      rw [if_pos trivial, ih f ps hf']
    | cons r2 m2 =>
      have h2 : r2 ≠ 39 := by simpa using hm
      simp only [scanGo]
      rw [if_pos trivial, if_neg h2, ih f ps hf']
  | other hr h ih =>
    intro f ps hf
    obtain ⟨f, rfl⟩ : ∃ g, f = g + 1 := ⟨f - 1, by simp at hf; omega⟩
    simp only [scanGo]
    rw [if_neg hr, ih f _ (by simp at hf; omega)]
    simp
theorem sc_len {m : List Int} {a op o : Int} {out : List S36} (h : Sc m a op out o) : out.length ≤ m.length := by
  induction h with
  | nil a op => simp
  | pair h ih => simp only [List.length_cons]; omega
  | quote hm h ih => simp only [List.length_cons]; omega
  | other hr h ih => simp only [List.length_cons]; omega
/-- What is made of what was scanned. -/
def fin13 (out : List S36) (o : Int) : List S36 × Int × Int := if o ≥ 0 then ([], 3, o) else if out.length > 400 then ([], 8, 0) else (out, 0, 0)
theorem scan_good (s : ByteArray) (hs : s.size ≤ 1000000000) (rs : List Int) (ha : All rs) (h : L s = encAll rs) {out : List S36} {o : Int} (hsc : Sc rs 0 (-1) out o) : token_Scan.f s = some (fin13 out o) := by
  have hf : TextForm ((L s).drop 0) rs [] := ⟨ha, by simpa using h, .inl rfl⟩
  have hb := badFrom_form s s.size 0 rs [] (by omega) hf
  have hr := runesFrom_form s s.size 0 rs (by omega) hf
  have hl : rs.length ≤ s.size := by rw [← hr]; exact runesFrom_len s s.size 0
  unfold token_Scan.f scanR
  rw [if_pos hs, hb, if_pos rfl, hr, sc_go hsc s.size [] hl]
  rw [if_neg (by omega)]
  rfl
theorem scan_bad (s : ByteArray) (hs : s.size ≤ 1000000000) (rs : List Int) (rest : List UInt8) (h : TextForm (L s) rs rest) (hr : rest ≠ []) : token_Scan.f s = some ([], 2, ((encAll rs).length : Int)) := by
  have hb := badFrom_form s s.size 0 rs rest (by omega) (by simpa using h)
  unfold token_Scan.f scanR
  rw [if_pos hs, hb, if_neg hr, if_pos (by omega)]
  simp
theorem scan_len (s : ByteArray) (r : List S36 × Int × Int) (h : token_Scan.f s = some r) : r.1.length ≤ 400 := by
  unfold token_Scan.f at h
  split at h
  · have := Option.some.inj h
    rw [← this]
    unfold scanR
    split
    · simp
    · split
      · simp
      · split
        · simp
        · simp only
          omega
  · cases h
/-! ### the reference's Scan -/
theorem enc39 : encodeRune 39 = [39] := by decide +kernel
theorem head_enc (r : Int) (h : validRune r = true) (t : List UInt8) : ((encodeRune r ++ t).getD 0 0).toNat = 39 ↔ r = 39 := by
  have hr := (ok_iff r).1 h
  by_cases h1 : r ≤ 127
  · have e : encodeRune r = [r.toNat.toUInt8] := by unfold encodeRune; rw [encodeRuneZ_one (by omega) h1]; rfl
    have b0 := byte_nat r (by omega) (by omega)
    rw [e, List.cons_append, List.getD_cons_zero, b0]
    omega
  by_cases h2 : r ≤ 2047
  · have e : encodeRune r = [(192 + r / 64).toNat.toUInt8, (128 + r % 64).toNat.toUInt8] := by unfold encodeRune; rw [encodeRuneZ_two (by omega) h2]; rfl
    have b0 := byte_nat (192 + r / 64) (by omega) (by omega)
    rw [e, List.cons_append, List.getD_cons_zero, b0]
    omega
  by_cases h3 : r ≤ 65535
  · have e : encodeRune r = [(224 + r / 4096).toNat.toUInt8, (128 + r / 64 % 64).toNat.toUInt8, (128 + r % 64).toNat.toUInt8] := by unfold encodeRune; rw [encodeRuneZ_three (by omega)]; rfl
    have b0 := byte_nat (224 + r / 4096) (by omega) (by omega)
    rw [e, List.cons_append, List.getD_cons_zero, b0]
    omega
  · have e : encodeRune r = [(240 + r / 262144).toNat.toUInt8, (128 + r / 4096 % 64).toNat.toUInt8, (128 + r / 64 % 64).toNat.toUInt8, (128 + r % 64).toNat.toUInt8] := by unfold encodeRune; rw [encodeRuneZ_four (by omega) (by omega)]; rfl
    have b0 := byte_nat (240 + r / 262144) (by omega) (by omega)
    rw [e, List.cons_append, List.getD_cons_zero, b0]
    omega
/-! ### the same tokens, but for their places -/
def keyT (x : S36) : Int × Bool := (x.f0, x.f1)
theorem sameT_l0 (l m : List S36) (hl : l.length = m.length) (hb : l.length ≤ 1000000000) : ∀ (d i : Nat), i + d = l.length → Ev (fun k => figureheadref13_Same.l0 k l m (i : Int)) (decide ((l.drop i).map keyT = (m.drop i).map keyT))
  | 0, i, hd => by
    refine succ ?_
    simp only [figureheadref13_Same.l0]
    rw [List.drop_of_length_le (by omega), List.drop_of_length_le (by omega)]
    exact neg (by omega) (Ev.now _)
  | d + 1, i, hd => by
    refine succ ?_
    simp only [figureheadref13_Same.l0]
    refine pos (by omega) (pos (by omega) (pos (by omega) ?_))
    have d1 : l.drop i = l[i]'(by omega) :: l.drop (i + 1) := List.drop_eq_getElem_cons (by omega)
    have d2 : m.drop i = m[i]'(by omega) :: m.drop (i + 1) := List.drop_eq_getElem_cons (by omega)
    rw [rdK_at l i (by omega), rdK_at m i (by omega), w64 (by omega) (by omega), d1, d2, List.map_cons, List.map_cons]
    by_cases h : (l[i]'(by omega)).f0 = (m[i]'(by omega)).f0
    · refine pos h ?_
      by_cases h2 : (l[i]'(by omega)).f1 = (m[i]'(by omega)).f1
      · have hk : keyT (l[i]'(by omega)) = keyT (m[i]'(by omega)) := Prod.ext h h2
        refine neg (by rw [h2]; simp) ?_
        have := sameT_l0 l m hl hb d (i + 1) (by omega)
        rw [show decide (keyT (l[i]'(by omega)) :: (l.drop (i + 1)).map keyT = keyT (m[i]'(by omega)) :: (m.drop (i + 1)).map keyT) = decide ((l.drop (i + 1)).map keyT = (m.drop (i + 1)).map keyT) from decide_eq_decide.2 ⟨fun e => (List.cons.inj e).2, fun e => by rw [hk, e]⟩]
        simpa using this
      · refine pos (by simpa using h2) ?_
        rw [decide_eq_false (fun e => h2 (congrArg Prod.snd (List.cons.inj e).1))]
        exact Ev.now _
    · refine neg h ?_
      rw [decide_eq_false (fun e => h (congrArg Prod.fst (List.cons.inj e).1))]
      exact Ev.now _
theorem sameT_ev (l m : List S36) (hb : l.length ≤ 1000000000) : Ev (fun k => figureheadref13_Same.f k l m) (decide (l.map keyT = m.map keyT)) := by
  simp only [figureheadref13_Same.f]
  by_cases h : l.length = m.length
  · refine pos (by omega) ?_
    have := sameT_l0 l m h hb l.length 0 (by omega)
    simpa using this
  · refine neg (by omega) ?_
    rw [decide_eq_false (fun e => h (by have := congrArg List.length e; simpa using this))]
    exact Ev.now _
end Go.Proofs.YtcenacecegleeaaDoor.Pure
/- Layer 13, the plain side: what tokens are as text, and that this text has just these tokens. -/
namespace Go.Proofs.YtcenacecegleeaaDoor.Pure
open Go.RowKit Go.Lib Go.Proofs.YtcenacecegleeaaDoor.Print Go.Proofs.YtcenacecegleeaaDoor.U Go.Proofs.YtcenacecegleeaaDoor.Utf Go.Proofs.YtcenacecegleeaaDoorW.PrintWords
set_option linter.unusedVariables false
set_option linter.unusedSimpArgs false

/-- A quoted code point, as code points. -/
def qR (r : Int) : List Int := if r = 39 then [39, 39] else [r]
def quR (w : List Int) : List Int := (w.map qR).flatten
def all39 (w : List Int) : Bool := w.all (fun r => r == 39)
/-- A row of quoted ones. -/
def rowR (w : List Int) : List Int := if all39 w = true then quR w else [39] ++ quR w ++ [39]
/-- Tokens as code points; those that wait are quoted ones. -/
def prR : List S36 → List Int → List Int
  | [], w => rowR w
  | x :: t, w => if x.f1 = true then prR t (w ++ [x.f0]) else rowR w ++ x.f0 :: prR t []
theorem quR_cons (r : Int) (w : List Int) : quR (r :: w) = qR r ++ quR w := by simp [quR]
theorem quR_snoc (r : Int) (w : List Int) : quR (w ++ [r]) = quR w ++ qR r := by simp [quR]
theorem encAll_qR (r : Int) : encAll (qR r) = encQ r := by
  unfold qR encQ
  by_cases h : r = 39
  · subst h
    rw [if_pos rfl, if_pos rfl, encAll_cons, encAll_cons, encAll_nil, List.append_nil]
  · rw [if_neg h, if_neg h, encAll_cons, encAll_nil]
theorem encAll_quR (l : List S36) : encAll (quR (l.map (·.f0))) = quotesL l := by
  induction l with
  | nil => rfl
  | cons x t ih =>
    rw [List.map_cons, quR_cons, encAll_app, ih, encAll_qR]
    simp [quotesL]
theorem written_rowR (l : List S36) : writtenL l (l.all (fun x => x.f0 == 39)) = encAll (rowR (l.map (·.f0))) := by
  have e : all39 (l.map (·.f0)) = l.all (fun x => x.f0 == 39) := by simp [all39, List.all_map, Function.comp_def]
  unfold writtenL rowR
  rw [e]
  split
  · exact (encAll_quR l).symm
  · rw [encAll_app, encAll_app, encAll_quR, encAll_cons, encAll_nil, enc39]
    rfl
theorem rowR_nil : rowR [] = [] := rfl
theorem pr_run : ∀ (l : List S36) (w : List Int), prR l w = prR (l.dropWhile (·.f1)) (w ++ (l.takeWhile (·.f1)).map (·.f0))
  | [], w => by simp
  | x :: t, w => by
    by_cases h : x.f1 = true
    · rw [List.dropWhile_cons_of_pos h, List.takeWhile_cons_of_pos h]
      simp only [prR]
      rw [if_pos h, pr_run t]
      simp
    · rw [List.dropWhile_cons_of_neg h, List.takeWhile_cons_of_neg h]
      simp
theorem pr_split (d : List S36) (hd : ∀ x ∈ d.head?, ¬ x.f1 = true) (w : List Int) : prR d w = rowR w ++ prR d [] := by
  cases d with
  | nil => simp [prR, rowR_nil]
  | cons x t =>
    have := hd x rfl
    simp only [prR]
    rw [if_neg this, if_neg this, rowR_nil, List.nil_append]
theorem dropWhile_head (l : List S36) : ∀ x ∈ (l.dropWhile (·.f1)).head?, ¬ x.f1 = true := by
  intro x hx
  induction l with
  | nil => simp at hx
  | cons y t ih =>
    by_cases h : y.f1 = true
    · rw [List.dropWhile_cons_of_pos h] at hx
      exact ih hx
    · rw [List.dropWhile_cons_of_neg h] at hx
      have : y = x := by simpa using hx
      rw [← this]; exact h
theorem printGo_eq : ∀ (f : Nat) (l : List S36), l.length ≤ f → printGo f l = encAll (prR l [])
  | 0, l, h => by
    have : l = [] := List.eq_nil_of_length_eq_zero (by omega)
    subst this
    rfl
  | f + 1, [], h => rfl
  | f + 1, x :: t, h => by
    have ht : t.length ≤ f := by simpa using h
    by_cases hx : x.f1 = true
    · have hA : rowA (x :: t) = ((x :: t).takeWhile (·.f1)).all (fun x => x.f0 == 39) := rfl
      have hD : (x :: t).drop (rowN (x :: t)) = (x :: t).dropWhile (·.f1) := by
        have h1 := List.takeWhile_append_dropWhile (p := fun y : S36 => y.f1) (l := x :: t)
        have h2 : ((x :: t).takeWhile (·.f1) ++ (x :: t).dropWhile (·.f1)).drop (rowN (x :: t)) = (x :: t).dropWhile (·.f1) := by
          unfold rowN
          exact List.drop_left
        rw [h1] at h2
        exact h2
      have hl : ((x :: t).dropWhile (·.f1)).length ≤ f := by
        rw [List.dropWhile_cons_of_pos hx]
        exact Nat.le_trans (List.dropWhile_suffix _).length_le ht
      simp only [printGo]
      rw [if_pos hx, rowN_take, hA, hD, printGo_eq f _ hl, written_rowR, pr_run (x :: t) [], List.nil_append, pr_split _ (dropWhile_head _) (((x :: t).takeWhile (·.f1)).map (·.f0)), encAll_app]
    · simp only [printGo, prR]
      rw [if_neg hx, if_neg hx, rowR_nil, List.nil_append, printGo_eq f t ht, encAll_cons]
theorem qR_all {w : List Int} (h : All w) : All (quR w) := by
  intro r hr
  unfold quR at hr
  rw [List.mem_flatten] at hr
  obtain ⟨l, hl, hr⟩ := hr
  obtain ⟨x, hx, rfl⟩ := List.mem_map.1 hl
  unfold qR at hr
  split at hr
  · have : r = 39 := by simpa using hr
    subst this
    decide +kernel
  · have : r = x := by simpa using hr
    subst this
    exact h r hx
theorem v39 : validRune 39 = true := by decide +kernel
theorem rowR_all {w : List Int} (h : All w) : All (rowR w) := by
  unfold rowR
  split
  · exact qR_all h
  · intro r hr
    have hr : r = 39 ∨ r ∈ quR w ∨ r = 39 := by simpa using hr
    rcases hr with rfl | hr | rfl
    · exact v39
    · exact qR_all h r hr
    · exact v39
theorem prR_all : ∀ (l : List S36) (w : List Int), All w → (∀ x ∈ l, validRune x.f0 = true) → All (prR l w)
  | [], w, hw, _ => rowR_all hw
  | x :: t, w, hw, hl => by
    simp only [prR]
    have hx := hl x (by simp)
    have ht : ∀ y ∈ t, validRune y.f0 = true := fun y hy => hl y (by simp [hy])
    split
    · refine prR_all t _ (fun r hr => ?_) ht
      rcases List.mem_append.1 hr with hr | hr
      · exact hw r hr
      · rw [List.mem_singleton.1 hr]; exact hx
    · intro r hr
      rcases List.mem_append.1 hr with hr | hr
      · exact rowR_all hw r hr
      · rcases List.mem_cons.1 hr with rfl | hr
        · exact hx
        · exact prR_all t [] (fun _ h => by cases h) ht r hr
theorem quR_len (w : List Int) : (quR w).length ≤ 2 * w.length := by
  induction w with
  | nil => simp [quR]
  | cons r w ih =>
    rw [quR_cons, List.length_append, List.length_cons]
    have : (qR r).length ≤ 2 := by unfold qR; split <;> simp
    omega
theorem rowR_len (w : List Int) : (rowR w).length ≤ 2 * w.length + 2 := by
  have := quR_len w
  unfold rowR
  split
  · omega
  · simp; omega
theorem prR_len : ∀ (l : List S36) (w : List Int), (prR l w).length ≤ 2 * w.length + 2 + 4 * l.length
  | [], w => by
    have := rowR_len w
    simp only [prR, List.length_nil]
    omega
  | x :: t, w => by
    simp only [prR]
    split
    · have := prR_len t (w ++ [x.f0])
      simp only [List.length_append, List.length_cons, List.length_nil] at this ⊢
      omega
    · have h1 := rowR_len w
      have h2 := prR_len t []
      simp only [List.length_append, List.length_cons, List.length_nil] at h2 ⊢
      omega
theorem prR_key : ∀ (l m : List S36) (w : List Int), l.map keyT = m.map keyT → prR l w = prR m w
  | [], m, w, h => by
    have : m = [] := by simpa using h.symm
    rw [this]
  | x :: t, [], w, h => by simp at h
  | x :: t, y :: u, w, h => by
    rw [List.map_cons, List.map_cons] at h
    have hk := (List.cons.inj h).1
    have h0 : x.f0 = y.f0 := congrArg Prod.fst hk
    have h1 : x.f1 = y.f1 := congrArg Prod.snd hk
    simp only [prR]
    rw [h0, h1, prR_key t u _ (List.cons.inj h).2, prR_key t u _ (List.cons.inj h).2]
theorem okT_key : ∀ (l m : List S36), l.map keyT = m.map keyT → l.all okT = m.all okT
  | [], m, h => by
    have : m = [] := by simpa using h.symm
    rw [this]
  | x :: t, [], h => by simp at h
  | x :: t, y :: u, h => by
    rw [List.map_cons, List.map_cons] at h
    have hk := (List.cons.inj h).1
    have h0 : x.f0 = y.f0 := congrArg Prod.fst hk
    have h1 : x.f1 = y.f1 := congrArg Prod.snd hk
    rw [List.all_cons, List.all_cons, okT_key t u (List.cons.inj h).2]
    unfold okT
    rw [h0, h1]

/-! ### what is printed is scanned -/
theorem sc_qu : ∀ (w : List Int) (a op : Int) (rest : List Int), 0 ≤ a → (0 ≤ op ∨ ∀ r ∈ w, r = 39) → ∃ a' out', a ≤ a' ∧ out'.map keyT = w.map (fun r => (r, true)) ∧ ∀ out o, Sc rest a' op out o → Sc (quR w ++ rest) a op (out' ++ out) o
  | [], a, op, rest, ha, h => ⟨a, [], Int.le_refl _, rfl, fun out o hs => by simpa [quR] using hs⟩
  | r :: w, a, op, rest, ha, h => by
    have hw : 0 ≤ op ∨ ∀ r ∈ w, r = 39 := h.imp id (fun h x hx => h x (by simp [hx]))
    rw [quR_cons]
    by_cases hr : r = 39
    · subst hr
      obtain ⟨a', out', h1, h2, h3⟩ := sc_qu w (a + 2) op rest (by omega) hw
      refine ⟨a', ⟨39, true, a⟩ :: out', by omega, by rw [List.map_cons, h2]; rfl, fun out o hs => ?_⟩
      exact .pair (h3 out o hs)
    · have hop : 0 ≤ op := h.elim id (fun h => absurd (h r (by simp)) hr)
      have hl := lenE_range r
      obtain ⟨a', out', h1, h2, h3⟩ := sc_qu w (a + lenE r) op rest (by omega) hw
      refine ⟨a', ⟨r, !decide (op < 0), a⟩ :: out', by omega, by rw [List.map_cons, h2]; simp [keyT]; omega, fun out o hs => ?_⟩
      have : qR r = [r] := by unfold qR; rw [if_neg hr]
      rw [this]
      exact .other hr (h3 out o hs)
theorem sc_row2 : ∀ (w : List Int) (a : Int) (rest : List Int), 0 ≤ a → rest.head? ≠ some 39 → ¬ all39 w = true → ∃ a' out', a ≤ a' ∧ out'.map keyT = w.map (fun r => (r, true)) ∧ ∀ out o, Sc rest a' (-1) out o → Sc (39 :: (quR w ++ 39 :: rest)) a (-1) (out' ++ out) o
  | [], a, rest, ha, hr, h => absurd rfl h
  | r :: w, a, rest, ha, hr, h => by
    by_cases h39 : r = 39
    · subst h39
      obtain ⟨a', out', h1, h2, h3⟩ := sc_row2 w (a + 2) rest (by omega) hr (fun e => h (by unfold all39 at e ⊢; rw [List.all_cons, e]; rfl))
      refine ⟨a', ⟨39, true, a⟩ :: out', by omega, by rw [List.map_cons, h2]; rfl, fun out o hs => ?_⟩
      rw [quR_cons]
      exact .pair (h3 out o hs)
    · obtain ⟨a', out', h1, h2, h3⟩ := sc_qu (r :: w) (a + 1) a (39 :: rest) (by omega) (.inl ha)
      refine ⟨a' + 1, out', by omega, h2, fun out o hs => ?_⟩
      have hq : (quR (r :: w) ++ 39 :: rest).head? ≠ some 39 := by
        rw [quR_cons]
        have : qR r = [r] := by unfold qR; rw [if_neg h39]
        rw [this]
        simpa using h39
      refine .quote hq ?_
      rw [if_pos (by omega)]
      refine h3 out o (.quote hr ?_)
      rw [if_neg (by omega)]
      exact hs
theorem sc_row (w : List Int) (a : Int) (rest : List Int) (ha : 0 ≤ a) (hr : rest.head? ≠ some 39) : ∃ a' out', a ≤ a' ∧ out'.map keyT = w.map (fun r => (r, true)) ∧ ∀ out o, Sc rest a' (-1) out o → Sc (rowR w ++ rest) a (-1) (out' ++ out) o := by
  unfold rowR
  by_cases h : all39 w = true
  · rw [if_pos h]
    refine sc_qu w a (-1) rest ha (.inr (fun r hr => ?_))
    have := List.all_eq_true.1 h r hr
    simpa using this
  · rw [if_neg h]
    obtain ⟨a', out', h1, h2, h3⟩ := sc_row2 w a rest ha hr h
    exact ⟨a', out', h1, h2, fun out o hs => by simpa using h3 out o hs⟩
theorem sc_pr : ∀ (l : List S36) (w : List Int) (a : Int), 0 ≤ a → (∀ x ∈ l, x.f1 = true ∨ x.f0 ≠ 39) → ∃ out, out.map keyT = w.map (fun r => (r, true)) ++ l.map keyT ∧ Sc (prR l w) a (-1) out (-1)
  | [], w, a, ha, _ => by
    obtain ⟨a', out', h1, h2, h3⟩ := sc_row w a [] ha (by simp)
    refine ⟨out', by simpa using h2, ?_⟩
    have := h3 [] (-1) (.nil _ _)
    simpa [prR] using this
  | x :: t, w, a, ha, hl => by
    have ht : ∀ y ∈ t, y.f1 = true ∨ y.f0 ≠ 39 := fun y hy => hl y (by simp [hy])
    simp only [prR]
    by_cases hx : x.f1 = true
    · rw [if_pos hx]
      obtain ⟨out, h1, h2⟩ := sc_pr t (w ++ [x.f0]) a ha ht
      refine ⟨out, ?_, h2⟩
      rw [h1]
      simp [keyT, hx]
    · rw [if_neg hx]
      have h39 : x.f0 ≠ 39 := (hl x (by simp)).resolve_left hx
      obtain ⟨a', out', h1, h2, h3⟩ := sc_row w a (x.f0 :: prR t []) ha (by simpa using h39)
      have hle := lenE_range x.f0
      obtain ⟨out, h4, h5⟩ := sc_pr t [] (a' + lenE x.f0) (by omega) ht
      refine ⟨out' ++ ⟨x.f0, !decide ((-1 : Int) < 0), a'⟩ :: out, ?_, h3 _ _ (.other h39 h5)⟩
      have hx0 : x.f1 = false := by simpa using hx
      rw [List.map_append, h2, List.map_cons, h4]
      simp [keyT, hx0]
theorem sc_ok {m : List Int} {a op o : Int} {out : List S36} (h : Sc m a op out o) : All m → out.all okT = true := by
  induction h with
  | nil a op => intro _; rfl
  | pair h ih =>
    intro ha
    rw [List.all_cons, ih (fun x hx => ha x (by simp [hx]))]
    simp [okT]
    exact v39
  | quote hm h ih => exact fun ha => ih (fun x hx => ha x (by simp [hx]))
  | other hr h ih =>
    intro ha
    rw [List.all_cons, ih (fun x hx => ha x (by simp [hx]))]
    have := ha _ List.mem_cons_self
    simp [okT, this, hr]
/-- The text of tokens that may be: it has just these tokens. -/
theorem print_scan (l : List S36) (hl : l.length ≤ 400) (ho : l.all okT = true) : token_Print.f l = some ⟨(encAll (prR l [])).toArray⟩ ∧ ∃ k, token_Scan.f ⟨(encAll (prR l [])).toArray⟩ = some (k, 0, 0) ∧ k.map keyT = l.map keyT := by
  have hok : ∀ x ∈ l, validRune x.f0 = true ∧ (x.f1 = true ∨ x.f0 ≠ 39) := fun x hx => by
    have := List.all_eq_true.1 ho x hx
    unfold okT at this
    rw [Bool.and_eq_true, Bool.or_eq_true] at this
    exact ⟨this.1, this.2.imp id (fun h => by simpa using h)⟩
  constructor
  · unfold token_Print.f
    rw [if_pos (by omega), if_pos ho, printGo_eq _ _ (Nat.le_refl _)]
  · obtain ⟨out, h1, h2⟩ := sc_pr l [] 0 (Int.le_refl _) (fun x hx => (hok x hx).2)
    have hall := prR_all l [] (fun _ h => by cases h) (fun x hx => (hok x hx).1)
    have hlen := prR_len l []
    have henc := encAll_len (prR l [])
    simp only [List.length_nil] at hlen
    have hk : out.map keyT = l.map keyT := by simpa using h1
    have hkl : out.length = l.length := by have := congrArg List.length hk; simpa using this
    refine ⟨out, ?_, hk⟩
    rw [scan_good _ (by rw [size_mk]; omega) (prR l []) hall (L_mk _) h2]
    unfold fin13
    rw [if_neg (by omega), if_neg (by omega)]
theorem print_bad (l : List S36) (hl : l.length ≤ 400) (ho : ¬ l.all okT = true) : token_Print.f l = some ⟨#[]⟩ := by
  unfold token_Print.f
  rw [if_pos (by omega), if_neg ho]

/-! ### the reference's Print -/
theorem all39_snoc (w : List Int) (r : Int) : all39 (w ++ [r]) = (all39 w && (r == 39)) := by simp [all39]
theorem L39 : L ⟨#[39]⟩ = [39] := rfl
theorem refRow_l0 (w : List Int) (ha : All w) (hb : w.length ≤ 1000000) : ∀ (d i : Nat) (s : ByteArray) (b : Bool), i + d = w.length → L s = encAll (quR (w.take i)) → b = all39 (w.take i) → s.size ≤ 8 * i → Ev (fun k => figureheadref13_Row.l0 k w s b (i : Int)) ⟨(encAll (rowR w)).toArray⟩
  | 0, i, s, b, hd, hs, hbb, hz => by
    refine succ ?_
    simp only [figureheadref13_Row.l0]
    rw [List.take_of_length_le (by omega)] at hs hbb
    refine neg (by omega) ?_
    by_cases hb2 : b = true
    · have e : rowR w = quR w := by unfold rowR; rw [← hbb, if_pos hb2]
      rw [e]
      refine pos hb2 ?_
      rw [show (⟨(encAll (quR w)).toArray⟩ : ByteArray) = s from L_inj (by rw [L_mk, hs])]
      exact Ev.now _
    · have e : rowR w = [39] ++ quR w ++ [39] := by unfold rowR; rw [← hbb, if_neg hb2]
      rw [e]
      have hz2 : (⟨#[39]⟩ ++ s : ByteArray).size = 1 + s.size := by rw [size_app]; rfl
      refine neg hb2 (pos (by omega) (pos (by rw [hz2]; omega) ?_))
      rw [show (⟨(encAll ([39] ++ quR w ++ [39])).toArray⟩ : ByteArray) = (⟨#[39]⟩ ++ s) ++ ⟨#[39]⟩ from L_inj (by rw [L_mk, L_app, L_app, L39, hs, encAll_app, encAll_app, encAll_cons, encAll_nil, enc39]; rfl)]
      exact Ev.now _
  | d + 1, i, s, b, hd, hs, hbb, hz => by
    refine succ ?_
    simp only [figureheadref13_Row.l0]
    have hi : i < w.length := by omega
    have e1 : rd w (i : Int) = w[i] := by rw [rd_eq, List.getD_eq_getElem?_getD, Int.toNat_natCast, List.getElem?_eq_getElem hi]; rfl
    have hv := ha w[i] (List.getElem_mem _)
    have htk : w.take (i + 1) = w.take i ++ [w[i]] := List.take_succ_eq_append_getElem hi
    have hzs : (strOfNums (encodeRuneZ w[i])).size ≤ 4 := by rw [← L_len, L_str_enc]; exact (enc_len _).2
    rw [e1, refBytes_val _ hv, w64 (by omega) (by omega)]
    refine pos (by omega) (pos (by omega) (Ev.bind (Ev.now _) (pos (by omega) ?_)))
    by_cases h39 : w[i] = 39
    · have hz2 := size_app s (strOfNums (encodeRuneZ w[i]))
      refine pos h39 (pos (by rw [hz2]; omega) ?_)
      have := refRow_l0 w ha hb d (i + 1) (s ++ strOfNums (encodeRuneZ w[i]) ++ ⟨#[39]⟩) b (by omega)
        (by rw [L_app, L_app, L_str_enc, hs, htk, quR_snoc, encAll_app, encAll_qR, L39]; unfold encQ; rw [if_pos h39, enc39, List.append_assoc])
        (by rw [htk, all39_snoc, ← hbb, h39]; simp) (by rw [size_app, hz2, show (⟨#[39]⟩ : ByteArray).size = 1 from rfl]; omega)
      simpa using this
    · refine neg h39 ?_
      have := refRow_l0 w ha hb d (i + 1) (s ++ strOfNums (encodeRuneZ w[i])) false (by omega)
        (by rw [L_app, L_str_enc, hs, htk, quR_snoc, encAll_app, encAll_qR]; unfold encQ; rw [if_neg h39, List.append_nil])
        (by rw [htk, all39_snoc, beq_eq_false_iff_ne.2 h39, Bool.and_false]) (by rw [size_app]; omega)
      simpa using this
theorem refRow_ev (w : List Int) (ha : All w) (hb : w.length ≤ 1000000) : Ev (fun k => figureheadref13_Row.f k w) ⟨(encAll (rowR w)).toArray⟩ := by
  simp only [figureheadref13_Row.f]
  have := refRow_l0 w ha hb w.length 0 ⟨#[]⟩ true (by omega) rfl rfl (by decide)
  simpa using this
theorem encAll_row_len (w : List Int) : (encAll (rowR w)).length ≤ 8 * w.length + 8 := by
  have h1 := encAll_len (rowR w)
  have h2 := rowR_len w
  omega
theorem refPrint_l0 (l : List S36) (hv : ∀ x ∈ l, validRune x.f0 = true) (hb : l.length ≤ 1000000) : ∀ (d i : Nat) (s : ByteArray) (w : List Int), i + d = l.length → All w → w.length ≤ i → s.size ≤ 100 * i → L s ++ encAll (prR (l.drop i) w) = encAll (prR l []) → s.size + 8 * w.length ≤ 100 * i →
    Ev (fun k => figureheadref13_Print.l0 k l s w (i : Int)) ⟨(encAll (prR l [])).toArray⟩
  | 0, i, s, w, hd, hw, hwl, hz, he, hz2 => by
    refine succ ?_
    simp only [figureheadref13_Print.l0]
    rw [List.drop_of_length_le (by omega)] at he
    simp only [prR] at he
    have hrl := encAll_row_len w
    have hz4 : (⟨(encAll (rowR w)).toArray⟩ : ByteArray).size = (encAll (rowR w)).length := size_mk _
    refine neg (by omega) (Ev.bind (refRow_ev w hw (by omega)) (pos (by omega) ?_))
    rw [show (⟨(encAll (prR l [])).toArray⟩ : ByteArray) = s ++ ⟨(encAll (rowR w)).toArray⟩ from L_inj (by rw [L_mk, L_app, L_mk, he])]
    exact Ev.now _
  | d + 1, i, s, w, hd, hw, hwl, hz, he, hz2 => by
    refine succ ?_
    simp only [figureheadref13_Print.l0]
    have hi : i < l.length := by omega
    rw [List.drop_eq_getElem_cons hi] at he
    have hvx := hv l[i] (List.getElem_mem _)
    rw [rdK_at l i hi, w64 (by omega) (by omega)]
    refine pos (by omega) (pos (by omega) ?_)
    by_cases hq : l[i].f1 = true
    · simp only [prR] at he
      rw [if_pos hq] at he
      refine pos hq (pos (by omega) ?_)
      have := refPrint_l0 l hv hb d (i + 1) s (w ++ [l[i].f0]) (by omega) (fun r hr => by
        rcases List.mem_append.1 hr with hr | hr
        · exact hw r hr
        · rw [List.mem_singleton.1 hr]; exact hvx) (by simp; omega) (by omega) he (by simp; omega)
      simpa using this
    · simp only [prR] at he
      rw [if_neg hq] at he
      have hrl := encAll_row_len w
      have hzs : (strOfNums (encodeRuneZ l[i].f0)).size ≤ 4 := by rw [← L_len, L_str_enc]; exact (enc_len _).2
      have hz3 := size_app s ⟨(encAll (rowR w)).toArray⟩
      have hz4 : (⟨(encAll (rowR w)).toArray⟩ : ByteArray).size = (encAll (rowR w)).length := size_mk _
      refine neg hq (Ev.bind (refRow_ev w hw (by omega)) (pos (by omega) ?_))
      rw [refBytes_val _ hvx]
      refine Ev.bind (Ev.now _) (pos (by rw [hz3]; omega) ?_)
      have := refPrint_l0 l hv hb d (i + 1) (s ++ ⟨(encAll (rowR w)).toArray⟩ ++ strOfNums (encodeRuneZ l[i].f0)) [] (by omega) (fun _ h => by cases h) (by simp) (by rw [size_app, hz3]; omega)
        (by rw [L_app, L_app, L_mk, L_str_enc, ← he, encAll_app, encAll_cons]; simp only [List.append_assoc]) (by rw [size_app, hz3]; simp; omega)
      simpa using this
theorem refPrint_ev (l : List S36) (hv : ∀ x ∈ l, validRune x.f0 = true) (hb : l.length ≤ 1000000) : Ev (fun k => figureheadref13_Print.f k l) ⟨(encAll (prR l [])).toArray⟩ := by
  simp only [figureheadref13_Print.f]
  have := refPrint_l0 l hv hb l.length 0 ⟨#[]⟩ [] (by omega) (fun _ h => by cases h) (by simp) (by decide) (by simp) (by decide)
  simpa using this
end Go.Proofs.YtcenacecegleeaaDoor.Pure
