/- What a compiled pattern is; the law's answers; what the three laws have in common. (Several texts, merged by this session's own program.) -/
import Derived.Test.YtkgdpgoianimjaaKpa
namespace Go.Proofs.Ytkgdpgoianimjaa.Pure
open Go.RowKit Go.Lib Go.Proofs.Ytkgdpgoianimjaa.Print Go.Proofs.Ytkgdpgoianimjaa.U Go.Proofs.Ytkgdpgoianimjaa.Utf Go.Proofs.YtkgdpgoianimjaaW.PrintWords
set_option linter.unusedVariables false
set_option linter.unusedSimpArgs false
/-! ### what a compiled pattern is -/
theorem may_item {x : S48} {a : S57} (h : itemTk x = some a) (hv : Lib.validRune x.f0 = true) : mayI a = true := by
  unfold itemTk at h
  split at h
  · obtain rfl := Option.some.inj h; simp [mayI, hv]
  split at h
  · cases h
  split at h
  · obtain rfl := Option.some.inj h; simp [mayI, hv]
  · obtain rfl := Option.some.inj h
    rename_i h0
    revert h0
    unfold sgnK
    repeat' split
    all_goals (intro h0; first | (exact absurd rfl h0) | rfl | (simp [mayI]))
theorem may_items : ∀ (l : List S48) (acc : List S57), (∀ x ∈ l, Lib.validRune x.f0 = true) → acc.all mayI = true → (itemsGo l acc).1.all mayI = true
  | [], acc, _, ha => by
    unfold itemsGo
    split
    · rfl
    · exact ha
  | x :: t, acc, hv, ha => by
    unfold itemsGo
    cases h : itemTk x with
    | none => rfl
    | some a =>
      refine may_items t _ (fun y hy => hv y (by simp [hy])) ?_
      rw [List.all_append, ha, Bool.true_and, List.all_cons, may_item h (hv x (by simp))]
      rfl
def VT (l : List S48) : Prop := ∀ x ∈ l, Lib.validRune x.f0 = true
def VE (l : List El) : Prop := ∀ x ∈ l, Lib.validRune x.t.f0 = true
theorem VT.snoc {l : List S48} (h : VT l) {x : S48} (hx : Lib.validRune x.f0 = true) : VT (l ++ [x]) := fun y hy => by
  rcases List.mem_append.1 hy with hy | hy
  · exact h y hy
  · rw [List.mem_singleton.1 hy]; exact hx
theorem split_valid (n e : Nat) : ∀ (l : List El) (i : Nat) (c : List S48 × ByteArray × List S48), VE l → VT c.1 → VT c.2.2 → VT (splitF n e i l c).1 ∧ VT (splitF n e i l c).2.2
  | [], i, c, _, h1, h2 => ⟨h1, h2⟩
  | x :: t, i, c, hv, h1, h2 => by
    have hx := hv x (by simp)
    have ht : VE t := fun y hy => hv y (by simp [hy])
    unfold splitF
    split
    · exact split_valid n e t _ _ ht h1 h2
    split
    · exact split_valid n e t _ _ ht (h1.snoc hx) h2
    split
    · exact split_valid n e t _ _ ht h1 h2
    · exact split_valid n e t _ _ ht h1 (h2.snoc hx)
def okA (c : Int × Int) : Prop := 0 ≤ c.1 ∧ (0 < c.1 → Lib.validRune c.2 = true)
theorem pads_ok (n e len : Nat) (first : Bool) : ∀ (l : List El) (i k : Nat) (c c' : Int × Int), VE l → okA c → padsF (atOf n e len) first i l k c = some c' → okA c'
  | [], i, k, c, c', _, hc, h => by
    obtain rfl := Option.some.inj h
    exact hc
  | x :: t, i, k, c, c', hv, hc, h => by
    have ht : VE t := fun y hy => hv y (by simp [hy])
    unfold padsF at h
    split at h
    · split at h
      · cases h
      · refine pads_ok n e len first t _ _ _ _ ht ⟨?_, fun _ => hv x (by simp)⟩ h
        show 0 ≤ atOf n e len i
        unfold atOf
        repeat' split
        all_goals decide
    · exact pads_ok n e len first t _ _ _ _ ht hc h
theorem half_ok {l : List El} {first : Bool} {b : HalfR} (hv : VE l) (h : halfF l first = some b) : b.pre.all mayI = true ∧ b.suf.all mayI = true ∧ okA (b.at_, b.pad) := by
  unfold halfF h3 at h
  split at h
  · cases h
  unfold h9 at h
  split at h
  · cases h
  rename_i c hc
  have hok := pads_ok _ _ _ first l 0 0 (0, 0) c hv ⟨by decide, fun h => absurd h (by decide)⟩ hc
  unfold h12 at h
  have hs := fun n e => split_valid n e l 0 ([], ⟨#[]⟩, []) hv (fun x hx => by cases hx) (fun x hx => by cases hx)
  unfold h13 at h
  split at h
  · unfold h15 at h
    split at h
    · unfold h17 at h
      split at h
      · obtain rfl := (Option.some.inj h).symm
        exact ⟨may_items _ _ (hs _ _).1 rfl, may_items _ _ (hs _ _).2 rfl, hok⟩
      · cases h
    · cases h
  · cases h
theorem elems_ok : ∀ (n : Nat) (l : List S48) (acc al : List El), l.length ≤ n → VT l → VE acc → elemsGo l acc = some al → VE al
  | _, [], acc, al, _, _, ha, h => by
    simp only [elemsGo, Option.some.injEq] at h
    rw [← h]; exact ha
  | 0, x :: t, acc, al, hn, _, _, _ => by simp at hn
  | n + 1, x :: t, acc, al, hn, hv, ha, h => by
    have ht : t.length ≤ n := by simpa using hn
    have snoc : ∀ y : El, Lib.validRune y.t.f0 = true → VE (acc ++ [y]) := fun y hy z hz => by
      rcases List.mem_append.1 hz with hz | hz
      · exact ha z hz
      · rw [List.mem_singleton.1 hz]; exact hy
    unfold elemsGo at h
    split at h
    · match t, ht, hv, h with
      | [], _, _, h => cases h
      | y :: t2, ht, hv, h => exact elems_ok n t2 _ al (by simp at ht; omega) (fun z hz => hv z (by simp [hz])) (snoc _ (hv y (by simp))) h
    · exact elems_ok n t _ al ht (fun z hz => hv z (by simp [hz])) (snoc _ (hv x (by simp))) h
structure PatOk (q : PatR) : Prop where
  m0 : q.pre.all mayI = true
  m1 : q.suf.all mayI = true
  m3 : q.npre.all mayI = true
  m4 : q.nsuf.all mayI = true
  l0 : q.pre.length ≤ 100
  l1 : q.suf.length ≤ 100
  l3 : q.npre.length ≤ 100
  l4 : q.nsuf.length ≤ 100
  pad : okA (q.at_, q.pad)
theorem c17_is {q r : PatR} (h : c17 q = some r) : r = q := by
  unfold c17 at h
  split at h
  · cases h
  · exact (Option.some.inj h).symm
theorem comp_ok {tl : List S48} {E ea : Int} {q : PatR} (hv : VT tl) (h : compF (tl, E, ea) = some q) : PatOk q := by
  unfold compF at h
  split at h
  · unfold compT at h
    simp only at h
    split at h
    · cases h
    rename_i al hal
    have hve := elems_ok tl.length tl [] al (Nat.le_refl _) hv (fun x hx => by cases hx) hal
    unfold c6 at h
    split at h
    · cases h
    rename_i s hs
    unfold c9 at h
    split at h
    · cases h
    rename_i a ha
    have hva : VE (if 0 ≤ s then al.take s.toNat else al) := by
      split
      · exact fun x hx => hve x (List.mem_of_mem_take hx)
      · exact hve
    obtain ⟨a0, a1, a2⟩ := half_ok hva ha
    obtain ⟨n0, n1⟩ := half_len ha
    have m2 : ((⟨2, 0⟩ : S57) :: a.pre).all mayI = true := by rw [List.all_cons, a0]; rfl
    unfold c16 at h
    split at h
    · split at h
      · cases h
      · rename_i b hb
        obtain ⟨b0, b1, _⟩ := half_ok (fun x hx => hve x (List.mem_of_mem_drop hx)) hb
        obtain ⟨k0, k1⟩ := half_len hb
        obtain rfl := c17_is h
        exact ⟨a0, a1, b0, b1, by show a.pre.length ≤ 100; omega, by show a.suf.length ≤ 100; omega, by show b.pre.length ≤ 100; omega, by show b.suf.length ≤ 100; omega, a2⟩
    · obtain rfl := c17_is h
      exact ⟨a0, a1, m2, a1, by show a.pre.length ≤ 100; omega, by show a.suf.length ≤ 100; omega, by show (_ :: a.pre).length ≤ 100; rw [List.length_cons]; omega, by show a.suf.length ≤ 100; omega, a2⟩
  · cases h
/-! ### the texts -/
def TT (s3 s4 s5 s6 s7 : ByteArray) (l : List S57) : ByteArray := ⟨((itemsT s3 s4 s5 s6 s7 l).getD []).toArray⟩
theorem okS_T {s3 s4 s5 s6 s7 : ByteArray} (h : goodT s3 = true ∧ goodT s4 = true ∧ goodT s5 = true ∧ goodT s6 = true ∧ goodT s7 = true) (l : List S57) : okS (TT s3 s4 s5 s6 s7 l) := by
  unfold TT
  cases hb : itemsT s3 s4 s5 s6 s7 l with
  | none => exact (okS_of (rs := []) (fun x hx => by cases hx) (by simp [encAll])).1
  | some b =>
    obtain ⟨rs, h1, h2⟩ := okB_items s3 s4 s5 s6 s7 h l b hb
    exact (okS_of h1 (by rw [Option.getD_some, U.L_mk, h2])).1
theorem itemsT_size {s3 s4 s5 s6 s7 : ByteArray} (h : s3.size ≤ 16 ∧ s4.size ≤ 16 ∧ s5.size ≤ 16 ∧ s6.size ≤ 16 ∧ s7.size ≤ 16) : ∀ (l : List S57) (b : List UInt8), itemsT s3 s4 s5 s6 s7 l = some b → b.length ≤ 16 * l.length
  | [], b, hb => by
    simp only [itemsT, Option.some.injEq] at hb
    rw [← hb]; simp
  | x :: l, b, hb => by
    simp only [itemsT, Option.bind_eq_some_iff, Option.map_eq_some_iff] at hb
    obtain ⟨a, ha, c, hc, rfl⟩ := hb
    have h1 := itemsT_size h l c hc
    have h2 : a.length ≤ 16 := by
      unfold itemT at ha
      split at ha
      · rw [← Option.some.inj ha, U.L_len]; exact sgn_size s3 s4 s5 s6 s7 h x.f0
      split at ha
      · rw [← Option.some.inj ha]; have := enc_len x.f1; omega
      · cases ha
    rw [List.length_append, List.length_cons]
    omega
theorem TT_size {s3 s4 s5 s6 s7 : ByteArray} (h : s3.size ≤ 16 ∧ s4.size ≤ 16 ∧ s5.size ≤ 16 ∧ s6.size ≤ 16 ∧ s7.size ≤ 16) (l : List S57) (hl : l.length ≤ 100) : (TT s3 s4 s5 s6 s7 l).size ≤ 1600 := by
  unfold TT
  rw [U.size_mk]
  cases hb : itemsT s3 s4 s5 s6 s7 l with
  | none => simp
  | some b => have := itemsT_size h l b hb; rw [Option.getD_some]; omega
end Go.Proofs.Ytkgdpgoianimjaa.Pure
namespace Go.Proofs.Ytkgdpgoianimjaa.Print
open Go.RowKit Go.Lib Go.Proofs.Ytkgdpgoianimjaa.Utf Go.Proofs.Ytkgdpgoianimjaa.Pure Go.Proofs.YtkgdpgoianimjaaW.PrintWords Go.Proofs.YtkgdpgoianimjaaW.PrintLast Go.Proofs.YtkgdpgoianimjaaW.PrintMore
set_option linter.unusedVariables false
set_option linter.unusedSimpArgs false
def S16 (s3 s4 s5 s6 s7 : ByteArray) : Prop := s3.size ≤ 16 ∧ s4.size ≤ 16 ∧ s5.size ≤ 16 ∧ s6.size ≤ 16 ∧ s7.size ≤ 16
theorem textC (z : Int) (s1 s2 s3 s4 s5 s6 s7 s8 : ByteArray) (h : S16 s3 s4 s5 s6 s7) (l : List S57) (hl : l.length ≤ 100) (W : World) (A : Option Addr) (c : Nat) (hC : Kd.C k57 W A l.length l) (hc : l.length ≤ c) :
    Calls Try.prog 21 #[.agg (symC z s1 s2 s3 s4 s5 s6 s7 s8), .slice A l.length c] W fun e w' => e = .returned (.string (TT s3 s4 s5 s6 s7 l)) ∧ Below W.heap.size W w' :=
  symbol_Text.calls z s1 s2 s3 s4 s5 s6 s7 s8 A c l _ W hC hc (symText_val z s1 s2 s3 s4 s5 s6 s7 s8 h l (by omega))
/-- A compiled pattern where it may be read. -/
structure Pv (W : World) (w0 w1 w3 w4 : Value) (q : PatR) : Prop where
  r0 : Rw W w0 q.pre
  r1 : Rw W w1 q.suf
  r3 : Rw W w3 q.npre
  r4 : Rw W w4 q.nsuf
theorem Pv.below {W W' : World} {w0 w1 w3 w4 : Value} {q : PatR} (h : Pv W w0 w1 w3 w4 q) (hb : Below W.heap.size W W') : Pv W' w0 w1 w3 w4 q := ⟨h.r0.below hb, h.r1.below hb, h.r3.below hb, h.r4.below hb⟩
/-- Compile, where it says a pattern. -/
theorem compile_some (s : ByteArray) (k : Nat) (tl : List S48) (E ea : Int) (q : PatR) (w : World) (hsc : figureheadref13_Scan.f k s = some (tl, E, ea)) (hl : tl.length ≤ 400) (hq : compF (tl, E, ea) = some q) :
    Calls Try.prog 6 #[.string s] w fun e w' => ∃ (w0 w1 w3 w4 : Value) (a : Int), e = .returned (.tuple #[.agg (patP w0 w1 q.hasNeg w3 w4 q.num q.at_ q.pad q.width), .agg #[.int .i64 0, .int .i64 a]]) ∧
      (patP w0 w1 q.hasNeg w3 w4 q.num q.at_ q.pad q.width).all (·.oneCell') = true ∧ Below w.heap.size w w' ∧ Pv w' w0 w1 w3 w4 q := by
  refine (compile_calls s k tl E ea w hsc (by omega)).mono fun e w' h => ?_
  rw [hq] at h
  obtain ⟨pcs, E', a, rfl, _, h1, hb, hE, w0, w1, w3, w4, rfl, R0, R1, R3, R4⟩ := h
  subst hE
  exact ⟨w0, w1, w3, w4, a, rfl, h1, hb, Rw.of R0, Rw.of R1, Rw.of R3, Rw.of R4⟩
theorem clearPair_T (z : Int) (s1 s2 s3 s4 s5 s6 s7 s8 : ByteArray) (h : S16 s3 s4 s5 s6 s7) (w0 w1 w3 w4 : Value) (q : PatR) (hn : Bool) (p : N.NP) (at_ pad width : Int) (neg : Bool) (w : World) (hv : Pv w w0 w1 w3 w4 q) (l0 : q.pre.length ≤ 100) (l1 : q.suf.length ≤ 100) (l3 : q.npre.length ≤ 100) (l4 : q.nsuf.length ≤ 100) :
    Calls Try.prog 9 #[.agg (patP w0 w1 hn w3 w4 p at_ pad width), .agg (symC z s1 s2 s3 s4 s5 s6 s7 s8), .bool neg] w fun e w' => e = .returned (.tuple #[.string (if neg = true then TT s3 s4 s5 s6 s7 q.npre else TT s3 s4 s5 s6 s7 q.pre), .string (if neg = true then TT s3 s4 s5 s6 s7 q.nsuf else TT s3 s4 s5 s6 s7 q.suf)]) ∧ Below w.heap.size w w' :=
  clearPair_calls z s1 s2 s3 s4 s5 s6 s7 s8 w0 w1 w3 w4 hn p at_ pad width q.pre q.suf q.npre q.nsuf neg (TT s3 s4 s5 s6 s7) w hv.r0 hv.r1 hv.r3 hv.r4 (fun l hl W A c => textC z s1 s2 s3 s4 s5 s6 s7 s8 h l (by rcases hl with rfl | rfl | rfl | rfl <;> assumption) W A c)
theorem clear_T (z : Int) (s1 s2 s3 s4 s5 s6 s7 s8 : ByteArray) (h : S16 s3 s4 s5 s6 s7) (w0 w1 w3 w4 : Value) (q : PatR) (hn : Bool) (p : N.NP) (at_ pad width : Int) (w : World) (hv : Pv w w0 w1 w3 w4 q) (l0 : q.pre.length ≤ 100) (l1 : q.suf.length ≤ 100) (l3 : q.npre.length ≤ 100) (l4 : q.nsuf.length ≤ 100) :
    Calls Try.prog 11 #[.agg (patP w0 w1 hn w3 w4 p at_ pad width), .agg (symC z s1 s2 s3 s4 s5 s6 s7 s8)] w (BPost (clearB z at_ pad s1 s2 s3 s4 s8 (TT s3 s4 s5 s6 s7 q.pre) (TT s3 s4 s5 s6 s7 q.suf) (TT s3 s4 s5 s6 s7 q.npre) (TT s3 s4 s5 s6 s7 q.nsuf)) w) :=
  clear_calls z s1 s2 s3 s4 s5 s6 s7 s8 w0 w1 w3 w4 hn p at_ pad width q.pre q.suf q.npre q.nsuf (TT s3 s4 s5 s6 s7) w hv.r0 hv.r1 hv.r3 hv.r4 (fun l hl W A c => textC z s1 s2 s3 s4 s5 s6 s7 s8 h l (by rcases hl with rfl | rfl | rfl | rfl <;> assumption) W A c)
    (Nat.le_trans (TT_size h _ l0) (by decide)) (Nat.le_trans (TT_size h _ l3) (by decide))
/-! ### the two texts -/
def tkP : List S48 := [⟨48, false, 0⟩, ⟨59, false, 1⟩, ⟨40, false, 2⟩, ⟨48, false, 3⟩, ⟨41, false, 4⟩]
def tkQ : List S48 := [⟨48, false, 0⟩, ⟨59, false, 1⟩, ⟨48, false, 2⟩]
theorem scanP : figureheadref13_Scan.f 40 ⟨#[48, 59, 40, 48, 41]⟩ = some (tkP, 0, 0) := by kernel_rfl
theorem scanQ : figureheadref13_Scan.f 40 ⟨#[48, 59, 48]⟩ = some (tkQ, 0, 0) := by kernel_rfl
theorem compP : (compF (tkP, 0, 0)).map (fun q => (q.pre, q.suf, q.npre, q.nsuf, q.at_, q.pad)) = some ([], [], [⟨1, 40⟩], [⟨1, 41⟩], 0, 0) := by kernel_rfl
theorem compQ : (compF (tkQ, 0, 0)).map (fun q => (q.pre, q.suf, q.npre, q.nsuf, q.at_, q.pad)) = some ([], [], [], [], 0, 0) := by kernel_rfl
theorem t40 : TT ⟨#[45]⟩ ⟨#[43]⟩ ⟨#[37]⟩ ⟨#[112]⟩ ⟨#[99]⟩ [⟨1, 40⟩] = ⟨#[40]⟩ := by kernel_rfl
theorem t41 : TT ⟨#[45]⟩ ⟨#[43]⟩ ⟨#[37]⟩ ⟨#[112]⟩ ⟨#[99]⟩ [⟨1, 41⟩] = ⟨#[41]⟩ := by kernel_rfl
theorem t00 : TT ⟨#[45]⟩ ⟨#[43]⟩ ⟨#[37]⟩ ⟨#[112]⟩ ⟨#[99]⟩ [] = ⟨#[]⟩ := by kernel_rfl
theorem clrP : clearB 48 0 0 ⟨#[46]⟩ ⟨#[44]⟩ ⟨#[45]⟩ ⟨#[43]⟩ ⟨#[69]⟩ ⟨#[]⟩ ⟨#[]⟩ ⟨#[40]⟩ ⟨#[41]⟩ = true := by
  unfold clearB clearR
  simp only [U.toList_L]
  kernel_rfl
theorem clrQ : clearB 48 0 0 ⟨#[46]⟩ ⟨#[44]⟩ ⟨#[45]⟩ ⟨#[43]⟩ ⟨#[69]⟩ ⟨#[]⟩ ⟨#[]⟩ ⟨#[]⟩ ⟨#[]⟩ = false := by
  unfold clearB clearR
  simp only [U.toList_L]
  kernel_rfl
open Go.RowKit Go.Lib Go.Proofs.Ytkgdpgoianimjaa.Utf Go.Proofs.Ytkgdpgoianimjaa.Pure Go.Proofs.YtkgdpgoianimjaaW.PrintWords Go.Proofs.YtkgdpgoianimjaaW.PrintLast Go.Proofs.YtkgdpgoianimjaaW.PrintMore
set_option linter.unusedVariables false
set_option linter.unusedSimpArgs false
abbrev syA : Array Value := symC 48 ⟨#[46]⟩ ⟨#[44]⟩ ⟨#[45]⟩ ⟨#[43]⟩ ⟨#[37]⟩ ⟨#[112]⟩ ⟨#[99]⟩ ⟨#[69]⟩
theorem s16A : S16 ⟨#[45]⟩ ⟨#[43]⟩ ⟨#[37]⟩ ⟨#[112]⟩ ⟨#[99]⟩ := by unfold S16; decide
theorem patP_set {v0 v1 v3 v4 : Value} {hn : Bool} {p : N.NP} {a d n : Int} : setAll (patN N.np0) 0 (patP v0 v1 hn v3 v4 p a d n).toList = patP v0 v1 hn v3 v4 p a d n := set_pall _ _ _ _ _ _ _ _ _
theorem alloc2 (W : World) (o1 o2 : Obj) : ((W.alloc o1).alloc o2).heap[W.heap.size + 1]? = some o2 := by
  have := heap_alloc_new (W.alloc o1) o2
  rwa [show (W.alloc o1).heap.size = W.heap.size + 1 from Array.size_push _] at this
set_option maxHeartbeats 16000000 in
set_option maxRecDepth 1000000 in
theorem answers_calls (w : World) : Calls Try.prog 8 #[] w fun e w' => e = .returned (.bool true) ∧ Below w.heap.size w w' := by
  obtain ⟨q, hq, eq⟩ := Option.map_eq_some_iff.1 compP
  obtain ⟨q', hq', eq'⟩ := Option.map_eq_some_iff.1 compQ
  simp only [Prod.mk.injEq] at eq eq'
  obtain ⟨e0, e1, e3, e4, ea, ed⟩ := eq
  obtain ⟨g0, g1, g3, g4, ga, gd⟩ := eq'
  have HCP : Hid (∀ W, Calls Try.prog 6 #[.string ⟨#[48, 59, 40, 48, 41]⟩] W fun e w' => ∃ (w0 w1 w3 w4 : Value) (a : Int), e = .returned (.tuple #[.agg (patP w0 w1 q.hasNeg w3 w4 q.num q.at_ q.pad q.width), .agg #[.int .i64 0, .int .i64 a]]) ∧
      (patP w0 w1 q.hasNeg w3 w4 q.num q.at_ q.pad q.width).all (·.oneCell') = true ∧ Below W.heap.size W w' ∧ Pv w' w0 w1 w3 w4 q) := Lib.hid fun W => compile_some _ 40 tkP 0 0 q W scanP (by decide) hq
  have HCQ : Hid (∀ W, Calls Try.prog 6 #[.string ⟨#[48, 59, 48]⟩] W fun e w' => ∃ (w0 w1 w3 w4 : Value) (a : Int), e = .returned (.tuple #[.agg (patP w0 w1 q'.hasNeg w3 w4 q'.num q'.at_ q'.pad q'.width), .agg #[.int .i64 0, .int .i64 a]]) ∧
      (patP w0 w1 q'.hasNeg w3 w4 q'.num q'.at_ q'.pad q'.width).all (·.oneCell') = true ∧ Below W.heap.size W w' ∧ Pv w' w0 w1 w3 w4 q') := Lib.hid fun W => compile_some _ 40 tkQ 0 0 q' W scanQ (by decide) hq'
  have HPA : Hid (∀ w0 w1 w3 w4 W, Pv W w0 w1 w3 w4 q → Calls Try.prog 9 #[.agg (patP w0 w1 q.hasNeg w3 w4 q.num q.at_ q.pad q.width), .agg syA, .bool true] W fun e w' => e = .returned (.tuple #[.string ⟨#[40]⟩, .string ⟨#[41]⟩]) ∧ Below W.heap.size W w') := Lib.hid fun w0 w1 w3 w4 W hv => by
    have := clearPair_T 48 ⟨#[46]⟩ ⟨#[44]⟩ ⟨#[45]⟩ ⟨#[43]⟩ ⟨#[37]⟩ ⟨#[112]⟩ ⟨#[99]⟩ ⟨#[69]⟩ s16A w0 w1 w3 w4 q q.hasNeg q.num q.at_ q.pad q.width true W hv (by rw [e0]; decide) (by rw [e1]; decide) (by rw [e3]; decide) (by rw [e4]; decide)
    rw [if_pos rfl, if_pos rfl, e3, e4, t40, t41] at this
    exact this
  have HCA : Hid (∀ w0 w1 w3 w4 W, Pv W w0 w1 w3 w4 q → Calls Try.prog 11 #[.agg (patP w0 w1 q.hasNeg w3 w4 q.num q.at_ q.pad q.width), .agg syA] W (BPost true W)) := Lib.hid fun w0 w1 w3 w4 W hv => by
    have := clear_T 48 ⟨#[46]⟩ ⟨#[44]⟩ ⟨#[45]⟩ ⟨#[43]⟩ ⟨#[37]⟩ ⟨#[112]⟩ ⟨#[99]⟩ ⟨#[69]⟩ s16A w0 w1 w3 w4 q q.hasNeg q.num q.at_ q.pad q.width W hv (by rw [e0]; decide) (by rw [e1]; decide) (by rw [e3]; decide) (by rw [e4]; decide)
    rw [show clearB 48 q.at_ q.pad ⟨#[46]⟩ ⟨#[44]⟩ ⟨#[45]⟩ ⟨#[43]⟩ ⟨#[69]⟩ (TT ⟨#[45]⟩ ⟨#[43]⟩ ⟨#[37]⟩ ⟨#[112]⟩ ⟨#[99]⟩ q.pre) (TT ⟨#[45]⟩ ⟨#[43]⟩ ⟨#[37]⟩ ⟨#[112]⟩ ⟨#[99]⟩ q.suf) (TT ⟨#[45]⟩ ⟨#[43]⟩ ⟨#[37]⟩ ⟨#[112]⟩ ⟨#[99]⟩ q.npre) (TT ⟨#[45]⟩ ⟨#[43]⟩ ⟨#[37]⟩ ⟨#[112]⟩ ⟨#[99]⟩ q.nsuf) = true from by rw [e0, e1, e3, e4, ea, ed, t40, t41, t00]; exact clrP] at this
    exact this
  have HCB : Hid (∀ w0 w1 w3 w4 W, Pv W w0 w1 w3 w4 q' → Calls Try.prog 11 #[.agg (patP w0 w1 q'.hasNeg w3 w4 q'.num q'.at_ q'.pad q'.width), .agg syA] W (BPost false W)) := Lib.hid fun w0 w1 w3 w4 W hv => by
    have := clear_T 48 ⟨#[46]⟩ ⟨#[44]⟩ ⟨#[45]⟩ ⟨#[43]⟩ ⟨#[37]⟩ ⟨#[112]⟩ ⟨#[99]⟩ ⟨#[69]⟩ s16A w0 w1 w3 w4 q' q'.hasNeg q'.num q'.at_ q'.pad q'.width W hv (by rw [g0]; decide) (by rw [g1]; decide) (by rw [g3]; decide) (by rw [g4]; decide)
    rw [show clearB 48 q'.at_ q'.pad ⟨#[46]⟩ ⟨#[44]⟩ ⟨#[45]⟩ ⟨#[43]⟩ ⟨#[69]⟩ (TT ⟨#[45]⟩ ⟨#[43]⟩ ⟨#[37]⟩ ⟨#[112]⟩ ⟨#[99]⟩ q'.pre) (TT ⟨#[45]⟩ ⟨#[43]⟩ ⟨#[37]⟩ ⟨#[112]⟩ ⟨#[99]⟩ q'.suf) (TT ⟨#[45]⟩ ⟨#[43]⟩ ⟨#[37]⟩ ⟨#[112]⟩ ⟨#[99]⟩ q'.npre) (TT ⟨#[45]⟩ ⟨#[43]⟩ ⟨#[37]⟩ ⟨#[112]⟩ ⟨#[99]⟩ q'.nsuf) = false from by rw [g0, g1, g3, g4, ga, gd, t00]; exact clrQ] at this
    exact this
  clear hq hq' e0 e1 e3 e4 ea ed g0 g1 g3 g4 ga gd
  go_enter Try.func8, Try.ntmps8
  go_wp2_with (first
    | ((with_reducible refine gate_store (t := 23) (p := 1) rfl ?_); refine store_any_event rfl rfl rfl w.heap.size 0 (.agg syA) syA rfl rfl rfl _ _ (heap_alloc_new w _) (by kernel_rfl) (Nat.le_of_ble_eq_true (by kernel_rfl)) (by kernel_rfl) syA (by kernel_rfl) ?_; intro W1 g p'; have HY1 := Lib.hid g; have HB1 : Hid (Below w.heap.size w W1) := Lib.hid (p'.below (below_alloc (Below.refl _ _) _) (Nat.le_refl _)); clear g p')
    | (go_at_call 6; (with_reducible refine (HCP.out _).mono ?_); rintro e W2 ⟨w0, w1, w3, w4, a2, rfl, c1, b, hv⟩; have HONE2 := Lib.hid c1; have HV2 := Lib.hid hv; have HB2 := Lib.hid b; clear c1 hv b)
    | (go_at_call 6; (with_reducible refine (HCQ.out _).mono ?_); rintro e W5 ⟨u0, u1, u3, u4, a5, rfl, c1, b, hv⟩; have HONE5 := Lib.hid c1; have HV5 := Lib.hid hv; have HB5 := Lib.hid b; clear c1 hv b)
    | ((with_reducible refine gate_store (t := 26) (p := 2) rfl ?_); refine store_any_event rfl rfl rfl W2.heap.size 0 (.agg (patP w0 w1 q.hasNeg w3 w4 q.num q.at_ q.pad q.width)) (patP w0 w1 q.hasNeg w3 w4 q.num q.at_ q.pad q.width) rfl rfl rfl _ _ (blk_alloc (heap_alloc_new W2 _) _) (by kernel_rfl) (Nat.le_of_ble_eq_true (by kernel_rfl)) HONE2.out _ patP_set ?_; intro W3 g p'; have HX3 := Lib.hid g; have HF3 := Lib.hid (p'.other (alloc2 W2 _ _) (Nat.succ_ne_self _)); have HB3 : Hid (Below W2.heap.size W2 W3) := Lib.hid (p'.below (below_alloc (below_alloc (Below.refl _ _) _) _) (Nat.le_refl _)); clear g p')
    | ((with_reducible refine gate_store (t := 29) (p := 3) rfl ?_); refine store_any_event rfl rfl rfl (W2.heap.size + 1) 0 (.agg #[.int .i64 0, .int .i64 a2]) #[.int .i64 0, .int .i64 a2] rfl rfl rfl _ _ HF3.out (by kernel_rfl) (Nat.le_of_ble_eq_true (by kernel_rfl)) (all_one2 _ _ rfl rfl) _ (set_flt _ _ _ _) ?_; intro W4 g p'; have HB4 : Hid (Below W2.heap.size W2 W4) := Lib.hid (p'.below HB3.out (Nat.le_succ _)); have HX4 := Lib.hid (p'.other HX3.out (Nat.succ_ne_self _).symm); clear g p')
    | ((with_reducible refine gate_store (t := 26) (p := 4) rfl ?_); refine store_any_event rfl rfl rfl W5.heap.size 0 (.agg (patP u0 u1 q'.hasNeg u3 u4 q'.num q'.at_ q'.pad q'.width)) (patP u0 u1 q'.hasNeg u3 u4 q'.num q'.at_ q'.pad q'.width) rfl rfl rfl _ _ (blk_alloc (heap_alloc_new W5 _) _) (by kernel_rfl) (Nat.le_of_ble_eq_true (by kernel_rfl)) HONE5.out _ patP_set ?_; intro W6 g p'; have HX6 := Lib.hid g; have HF6 := Lib.hid (p'.other (alloc2 W5 _ _) (Nat.succ_ne_self _)); have HB6 : Hid (Below W5.heap.size W5 W6) := Lib.hid (p'.below (below_alloc (below_alloc (Below.refl _ _) _) _) (Nat.le_refl _)); clear g p')
    | ((with_reducible refine gate_store (t := 29) (p := 5) rfl ?_); refine store_any_event rfl rfl rfl (W5.heap.size + 1) 0 (.agg #[.int .i64 0, .int .i64 a5]) #[.int .i64 0, .int .i64 a5] rfl rfl rfl _ _ HF6.out (by kernel_rfl) (Nat.le_of_ble_eq_true (by kernel_rfl)) (all_one2 _ _ rfl rfl) _ (set_flt _ _ _ _) ?_; intro W7 g p'; have HB7 : Hid (Below W5.heap.size W5 W7) := Lib.hid (p'.below HB6.out (Nat.le_succ _)); have HZ7 := Lib.hid (p'.other HX6.out (Nat.succ_ne_self _).symm); have HB27 : Hid (Below W2.heap.size W2 W7) := Lib.hid (below_step HB4.out (below_step HB5.out HB7.out)); have HX7 := Lib.hid (heap_keeps (below_step HB5.out HB7.out) HX4.out); have HY7 := Lib.hid (heap_keeps (below_step HB2.out HB27.out) HY1.out); have HW7 : Hid (Below w.heap.size w W7) := Lib.hid (below_step HB1.out (below_step HB2.out HB27.out)); clear g p')
    | ((with_reducible refine gate_dst (N := 18) rfl ?_); refine wpList_load_mid rfl 26 (.tmp 2) rfl W2.heap.size 0 rfl (patP w0 w1 q.hasNeg w3 w4 q.num q.at_ q.pad q.width).toList _ (row_range HX7.out) Try.underlying26 rfl (by kernel_rfl) ?_; rw [arr_back3])
    | ((with_reducible refine gate_dst (N := 19) rfl ?_); refine wpList_load_mid rfl 23 (.tmp 1) rfl w.heap.size 0 rfl syA.toList _ (row_range HY7.out) Try.underlying23 rfl (by kernel_rfl) ?_; rw [arr_back3])
    | (go_at_call 9; (with_reducible refine (HPA.out w0 w1 w3 w4 _ (HV2.out.below HB27.out)).mono ?_); rintro e W8 ⟨rfl, b⟩; have HB8 := Lib.hid b; have HX8 := Lib.hid (heap_keeps b HX7.out); have HZ8 := Lib.hid (heap_keeps b HZ7.out); have HY8 := Lib.hid (heap_keeps b HY7.out); clear b)
    | ((with_reducible refine gate_dst (N := 23) rfl ?_); refine wpList_load_mid rfl 26 (.tmp 2) rfl W2.heap.size 0 rfl (patP w0 w1 q.hasNeg w3 w4 q.num q.at_ q.pad q.width).toList _ (row_range HX8.out) Try.underlying26 rfl (by kernel_rfl) ?_; rw [arr_back3])
    | ((with_reducible refine gate_dst (N := 24) rfl ?_); refine wpList_load_mid rfl 23 (.tmp 1) rfl w.heap.size 0 rfl syA.toList _ (row_range HY8.out) Try.underlying23 rfl (by kernel_rfl) ?_; rw [arr_back3])
    | (go_at_call 11; (with_reducible refine (HCA.out w0 w1 w3 w4 _ (HV2.out.below (below_step HB27.out HB8.out))).mono ?_); rintro e W9 ⟨rfl, b⟩; have HB9 := Lib.hid (below_step HB8.out b); have HZ9 := Lib.hid (heap_keeps b HZ8.out); have HY9 := Lib.hid (heap_keeps b HY8.out); clear b)
    | ((with_reducible refine gate_dst (N := 27) rfl ?_); (try (refine gate_guard (by rfl) ?_; dsimp only)); refine wpList_load_mid rfl 26 (.tmp 4) rfl W5.heap.size 0 rfl (patP u0 u1 q'.hasNeg u3 u4 q'.num q'.at_ q'.pad q'.width).toList _ (row_range HZ9.out) Try.underlying26 rfl (by kernel_rfl) ?_; rw [arr_back3])
    | ((with_reducible refine gate_dst (N := 28) rfl ?_); (try (refine gate_guard (by rfl) ?_; dsimp only)); refine wpList_load_mid rfl 23 (.tmp 1) rfl w.heap.size 0 rfl syA.toList _ (row_range HY9.out) Try.underlying23 rfl (by kernel_rfl) ?_; rw [arr_back3])
    | (go_at_call 11; (with_reducible refine (HCB.out u0 u1 u3 u4 _ (HV5.out.below (below_step HB7.out HB9.out))).mono ?_); rintro e W10 ⟨rfl, b⟩; have HB10 := Lib.hid (below_step HB9.out b); clear b))
  go_ret
  exact ⟨rfl, below_step HW7.out HB10.out⟩
open Go.RowKit Go.Lib Go.Proofs.Ytkgdpgoianimjaa.Utf Go.Proofs.Ytkgdpgoianimjaa.Pure Go.Proofs.YtkgdpgoianimjaaW.PrintWords Go.Proofs.YtkgdpgoianimjaaW.PrintLast Go.Proofs.YtkgdpgoianimjaaW.PrintMore
set_option linter.unusedVariables false
set_option linter.unusedSimpArgs false
/-- What an argument may weigh. -/
def smallS (z : Int) (s1 s2 s3 s4 s5 s6 s7 s8 : ByteArray) : Prop := z ≤ 2147483647 ∧ s1.size ≤ 1048576 ∧ s2.size ≤ 1048576 ∧ s3.size ≤ 1048576 ∧ s4.size ≤ 1048576 ∧ s5.size ≤ 1048576 ∧ s6.size ≤ 1048576 ∧ s7.size ≤ 1048576 ∧ s8.size ≤ 1048576
instance (z : Int) (s1 s2 s3 s4 s5 s6 s7 s8 : ByteArray) : Decidable (smallS z s1 s2 s3 s4 s5 s6 s7 s8) := by unfold smallS; infer_instance
def goodB (z : Int) (s1 s2 s3 s4 s5 s6 s7 s8 : ByteArray) : Bool := [s1, s2, s3, s4, s5, s6, s7, s8].all goodT && goodZ z
theorem good_calls {z : Int} {s1 s2 s3 s4 s5 s6 s7 s8 : ByteArray} (h : smallS z s1 s2 s3 s4 s5 s6 s7 s8) (W : World) : Calls Try.prog 7 #[.agg (symC z s1 s2 s3 s4 s5 s6 s7 s8)] W fun e w' => e = .returned (.bool (goodB z s1 s2 s3 s4 s5 s6 s7 s8)) ∧ Below W.heap.size W w' := by
  obtain ⟨hz, h1, h2, h3, h4, h5, h6, h7, h8⟩ := h
  obtain ⟨k, hk⟩ := Ev.rounds (refGood_ev z hz s1 s2 s3 s4 s5 s6 s7 s8 (fun x hx => by
    simp only [List.mem_cons, List.not_mem_nil, or_false] at hx
    rcases hx with rfl | rfl | rfl | rfl | rfl | rfl | rfl | rfl <;> omega))
  exact figureheadref18_Good.calls k z s1 s2 s3 s4 s5 s6 s7 s8 _ W hk
/-- Symbols that may be. -/
structure Gd (z : Int) (s1 s2 s3 s4 s5 s6 s7 s8 : ByteArray) : Prop where
  t : [s1, s2, s3, s4, s5, s6, s7, s8].all goodT = true
  z : goodZ z = true
theorem gd_of {z : Int} {s1 s2 s3 s4 s5 s6 s7 s8 : ByteArray} (h : goodB z s1 s2 s3 s4 s5 s6 s7 s8 = true) : Gd z s1 s2 s3 s4 s5 s6 s7 s8 := by
  unfold goodB at h
  rw [Bool.and_eq_true] at h
  exact ⟨h.1, h.2⟩
theorem Gd.s16 {z : Int} {s1 s2 s3 s4 s5 s6 s7 s8 : ByteArray} (h : Gd z s1 s2 s3 s4 s5 s6 s7 s8) : S16 s3 s4 s5 s6 s7 := good16 h.t
theorem Gd.one {z : Int} {s1 s2 s3 s4 s5 s6 s7 s8 : ByteArray} (h : Gd z s1 s2 s3 s4 s5 s6 s7 s8) {x : ByteArray} (hx : x ∈ [s1, s2, s3, s4, s5, s6, s7, s8]) : goodT x = true ∧ okS x ∧ x.size ≤ 16 := by
  have h1 := List.all_eq_true.1 h.t x hx
  exact ⟨h1, okS_good h1, good_sizes h.t x hx⟩
theorem Gd.zr {z : Int} {s1 s2 s3 s4 s5 s6 s7 s8 : ByteArray} (h : Gd z s1 s2 s3 s4 s5 s6 s7 s8) : 0 ≤ z ∧ z ≤ 1114102 := by
  have := of_decide_eq_true h.z
  omega
theorem Gd.ok {z : Int} {s1 s2 s3 s4 s5 s6 s7 s8 : ByteArray} (h : Gd z s1 s2 s3 s4 s5 s6 s7 s8) (l : List S57) : okS (TT s3 s4 s5 s6 s7 l) :=
  okS_T ⟨(h.one (by simp)).1, (h.one (by simp)).1, (h.one (by simp)).1, (h.one (by simp)).1, (h.one (by simp)).1⟩ l
theorem Gd.cx {z : Int} {s1 s2 s3 s4 s5 s6 s7 s8 : ByteArray} (h : Gd z s1 s2 s3 s4 s5 s6 s7 s8) {q : PatR} (hq : PatOk q) : Cx s1 s2 s3 s4 s8 (TT s3 s4 s5 s6 s7 q.pre) (TT s3 s4 s5 s6 s7 q.suf) (TT s3 s4 s5 s6 s7 q.npre) (TT s3 s4 s5 s6 s7 q.nsuf) := by
  have ht : ∀ l : List S57, l.length ≤ 100 → okS (TT s3 s4 s5 s6 s7 l) ∧ (TT s3 s4 s5 s6 s7 l).size ≤ 1000000000 := fun l hl => ⟨h.ok l, Nat.le_trans (TT_size h.s16 l hl) (by decide)⟩
  have hs : ∀ x, x ∈ [s1, s2, s3, s4, s5, s6, s7, s8] → okS x ∧ x.size ≤ 1000000000 := fun x hx => ⟨(h.one hx).2.1, Nat.le_trans (h.one hx).2.2 (by decide)⟩
  refine ⟨fun t htm => ?_⟩
  simp only [List.mem_cons, List.not_mem_nil, or_false] at htm
  rcases htm with rfl | rfl | rfl | rfl | rfl | rfl | rfl | rfl | rfl
  · exact ht _ hq.l0
  · exact ht _ hq.l1
  · exact ht _ hq.l3
  · exact ht _ hq.l4
  · exact hs _ (by simp)
  · exact hs _ (by simp)
  · exact hs _ (by simp)
  · exact hs _ (by simp)
  · exact hs _ (by simp)
def clrT (z : Int) (s1 s2 s3 s4 s5 s6 s7 s8 : ByteArray) (at_ pad : Int) (q : PatR) : Bool := clearB z at_ pad s1 s2 s3 s4 s8 (TT s3 s4 s5 s6 s7 q.pre) (TT s3 s4 s5 s6 s7 q.suf) (TT s3 s4 s5 s6 s7 q.npre) (TT s3 s4 s5 s6 s7 q.nsuf)
theorem clear_Q {z : Int} {s1 s2 s3 s4 s5 s6 s7 s8 : ByteArray} (h : S16 s3 s4 s5 s6 s7) (w0 w1 w3 w4 : Value) {q : PatR} (hq : PatOk q) (hn : Bool) (p : N.NP) (at_ pad width : Int) (w : World) (hv : Pv w w0 w1 w3 w4 q) :
    Calls Try.prog 11 #[.agg (patP w0 w1 hn w3 w4 p at_ pad width), .agg (symC z s1 s2 s3 s4 s5 s6 s7 s8)] w (BPost (clrT z s1 s2 s3 s4 s5 s6 s7 s8 at_ pad q) w) :=
  clear_T z s1 s2 s3 s4 s5 s6 s7 s8 h w0 w1 w3 w4 q hn p at_ pad width w hv hq.l0 hq.l1 hq.l3 hq.l4
theorem pair_Q {z : Int} {s1 s2 s3 s4 s5 s6 s7 s8 : ByteArray} (h : S16 s3 s4 s5 s6 s7) (w0 w1 w3 w4 : Value) {q : PatR} (hq : PatOk q) (hn : Bool) (p : N.NP) (at_ pad width : Int) (neg : Bool) (w : World) (hv : Pv w w0 w1 w3 w4 q) :
    Calls Try.prog 9 #[.agg (patP w0 w1 hn w3 w4 p at_ pad width), .agg (symC z s1 s2 s3 s4 s5 s6 s7 s8), .bool neg] w fun e w' => e = .returned (.tuple #[.string (if neg = true then TT s3 s4 s5 s6 s7 q.npre else TT s3 s4 s5 s6 s7 q.pre), .string (if neg = true then TT s3 s4 s5 s6 s7 q.nsuf else TT s3 s4 s5 s6 s7 q.suf)]) ∧ Below w.heap.size w w' :=
  clearPair_T z s1 s2 s3 s4 s5 s6 s7 s8 h w0 w1 w3 w4 q hn p at_ pad width neg w hv hq.l0 hq.l1 hq.l3 hq.l4
/-- What Compile answered, and where its pattern may be read. -/
def COv (r : Option PatR) (pcs : Array Value) (E : Int) (W : World) : Prop :=
  match r with
  | none => E ≠ 0
  | some q => E = 0 ∧ ∃ w0 w1 w3 w4 : Value, pcs = patP w0 w1 q.hasNeg w3 w4 q.num q.at_ q.pad q.width ∧ Pv W w0 w1 w3 w4 q
theorem cov_of {r : Option PatR} {w W : World} {pcs : Array Value} {E : Int} (h : COut r w pcs E W) : COv r pcs E W := by
  cases r with
  | none => exact h
  | some q =>
    obtain ⟨h0, w0, w1, w3, w4, h1, R0, R1, R3, R4⟩ := h
    exact ⟨h0, w0, w1, w3, w4, h1, Rw.of R0, Rw.of R1, Rw.of R3, Rw.of R4⟩
theorem COv.below {r : Option PatR} {W W' : World} {pcs : Array Value} {E : Int} (h : COv r pcs E W) (hb : Below W.heap.size W W') : COv r pcs E W' := by
  cases r with
  | none => exact h
  | some q =>
    obtain ⟨h0, w0, w1, w3, w4, h1, hv⟩ := h
    exact ⟨h0, w0, w1, w3, w4, h1, hv.below hb⟩
/-- Compile of any text: what it answers, and that a pattern of it is well. -/
theorem compile_any (t : ByteArray) (ht : t.size ≤ 1048576) : ∃ r : Option PatR, (∀ q, r = some q → PatOk q) ∧ ∀ w, Calls Try.prog 6 #[.string t] w fun e w' =>
    ∃ (pcs : Array Value) (E ea : Int), e = .returned (.tuple #[.agg pcs, .agg #[.int .i64 E, .int .i64 ea]]) ∧ pcs.size = 20 ∧ pcs.all (·.oneCell') = true ∧ Below w.heap.size w w' ∧ COv r pcs E w' := by
  obtain ⟨k, tl, E, ea, hk, hl, hv⟩ := scan_ex t (by omega)
  refine ⟨compF (tl, E, ea), fun q hq => comp_ok hv hq, fun w => ?_⟩
  refine (compile_calls t k tl E ea w hk (by omega)).mono fun e w' h => ?_
  obtain ⟨pcs, E', a', h1, h2, h3, h4, h5⟩ := h
  exact ⟨pcs, E', a', h1, h2, h3, h4, cov_of h5⟩
end Go.Proofs.Ytkgdpgoianimjaa.Print
