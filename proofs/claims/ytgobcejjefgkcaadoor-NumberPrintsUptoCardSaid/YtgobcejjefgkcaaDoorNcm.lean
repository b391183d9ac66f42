/- Package number's commas: its contract. -/
import Derived.Test.YtgobcejjefgkcaaDoorNm
namespace Go.Proofs.YtgobcejjefgkcaaDoor.Print
open Go.RowKit Go.Proofs.YtgobcejjefgkcaaDoorW.PrintWords Go.Proofs.YtgobcejjefgkcaaDoorW.PrintLast Go.Proofs.YtgobcejjefgkcaaDoorW.PrintMore
set_option linter.unusedVariables false
set_option linter.unusedSimpArgs false

theorem mkB_app (a b : List UInt8) : mkB a ++ mkB b = mkB (a ++ b) := by
  apply ByteArray.ext
  simp [mkB]
theorem mkB_ext (l : List UInt8) (i j : Nat) : (mkB l).extract i j = mkB ((l.drop i).take (j - i)) := by
  have h := congrArg mkB (L_ext (mkB l) i j)
  rwa [mkB_L, L_mkB] at h
theorem mkB_from (l : List UInt8) (i : Nat) : (mkB l).extract i (mkB l).size = mkB (l.drop i) := by
  rw [mkB_ext, mkB_size, List.take_of_length_le (by rw [List.length_drop]; exact Nat.le_refl _)]
theorem mkB_to (l : List UInt8) (i : Nat) : (mkB l).extract 0 i = mkB (l.take i) := by
  rw [mkB_ext, List.drop_zero, Nat.sub_zero]
set_option maxHeartbeats 4000000 in
set_option maxRecDepth 1000000 in
theorem commas_walk (x : List UInt8) (p q : Nat) (cs : Array Value) (w : World) (hx : x.length ≤ 100000000) (h11 : cs[11]? = some (.int .i64 (p : Int))) (h12 : cs[12]? = some (.int .i64 (q : Int)))
    (hl : p = 0 ∨ (p < x.length ∧ (q ≠ p → p + q < x.length))) :
    Calls Tryd.prog 30 #[.string (mkB x), .agg cs] w fun e w' => e = .returned (.string (mkB (N.commasN x p q))) ∧ Below w.heap.size w w' := by
  have hzx := mkB_size x
  by_cases h0 : p = 0
  · have hk : ((p : Int) == 0) = true := by rw [h0]; rfl
    have he : N.commasN x p q = x := by unfold N.commasN; rw [if_pos h0]
    rw [he]
    clear hl h0 he
    go_enter Tryd.func30, Tryd.ntmps30
    go_wp2
    go_ret
    exact ⟨rfl, below_alloc (Below.refl _ _) _⟩
  · rcases hl with hl | ⟨hl, hl2⟩
    · exact absurd hl h0
    have hk : ((p : Int) == 0) = false := beq_eq_false_iff_ne.2 (by omega)
    obtain ⟨n1, hn1⟩ : ∃ n1, n1 = x.length - p := ⟨_, rfl⟩
    have hs1 : ((mkB x).size : Int) - (p : Int) = (n1 : Int) := by rw [hzx]; omega
    have hn1b : n1 ≤ 100000000 := by omega
    obtain ⟨hdb, hhd⟩ : ∃ hdb, hdb = mkB (x.take n1) := ⟨_, rfl⟩
    obtain ⟨tlb, htl⟩ : ∃ tlb, tlb = mkB (x.drop n1) := ⟨_, rfl⟩
    have f1 : (mkB x).extract 0 n1 = hdb := by rw [hhd]; exact mkB_to x n1
    have f2 : (mkB x).extract n1 (mkB x).size = tlb := by rw [htl]; exact mkB_from x n1
    have z1 : hdb.size = n1 := by rw [hhd, mkB_size, List.length_take]; omega
    have z2 : tlb.size = p := by rw [htl, mkB_size, List.length_drop]; omega
    have k1 : (n1 : Int) ≤ ((mkB x).size : Int) := by rw [hzx]; omega
    have k2 : n1 ≤ (mkB x).size := by rw [hzx]; omega
    have hsz : (mkB x).size ≤ 100000000 := by rw [hzx]; exact hx
    by_cases h1 : q = p
    · have hq : ((q : Int) != (p : Int)) = false := by rw [h1]; simp
      have he : N.commasN x p q = x.take n1 ++ 44 :: x.drop n1 := by unfold N.commasN; rw [if_neg h0, if_neg (by simp [h1]), ← hn1]
      rw [he]
      have HHD := Lib.hid hhd
      have HTL := Lib.hid htl
      clear hl hl2 h0 he h1 hn1 hhd htl hzx
      go_enter Tryd.func30, Tryd.ntmps30
      go_wp2
      go_region
      go_wp2
      go_ret
      refine ⟨?_, (below_alloc (Below.refl _ _) _).drew⟩
      have e : mkB (x.take n1 ++ 44 :: x.drop n1) = hdb ++ ((⟨#[44]⟩ : ByteArray) ++ tlb) := by
        rw [HHD.out, HTL.out, show (⟨#[44]⟩ : ByteArray) = mkB [44] from rfl, mkB_app, mkB_app]; rfl
      rw [e]
      rfl
    · have := hl2 h1
      have hq : ((q : Int) != (p : Int)) = true := bne_iff_ne.2 (by omega)
      obtain ⟨n2, hn2⟩ : ∃ n2, n2 = n1 - q := ⟨_, rfl⟩
      have hs2 : (n1 : Int) - (q : Int) = (n2 : Int) := by omega
      have hn2b : n2 ≤ 100000000 := by omega
      have he : N.commasN x p q = x.take n2 ++ 44 :: ((x.drop n2).take q ++ 44 :: x.drop n1) := by unfold N.commasN; rw [if_neg h0, if_pos h1, ← hn1, ← hn2]
      rw [he]
      obtain ⟨h2, hh2⟩ : ∃ h2, h2 = mkB (x.take n2) := ⟨_, rfl⟩
      obtain ⟨m2, hm2⟩ : ∃ m2, m2 = mkB ((x.drop n2).take q) := ⟨_, rfl⟩
      have f3 : hdb.extract 0 n2 = h2 := by rw [hhd, hh2, mkB_to, List.take_take, Nat.min_eq_left (by omega)]
      have f4 : hdb.extract n2 hdb.size = m2 := by
        rw [hhd, hm2, mkB_from, List.drop_take]
        congr 2
        omega
      rw [z1] at f4
      have z3 : h2.size = n2 := by rw [hh2, mkB_size, List.length_take]; omega
      have z4 : m2.size = q := by rw [hm2, mkB_size, List.length_take, List.length_drop]; omega
      have k3 : (n2 : Int) ≤ (n1 : Int) := by omega
      have k4 : n2 ≤ n1 := by omega
      have k5 : q ≤ 100000000 := by omega
      have k6 : p ≤ 100000000 := by omega
      have HHD := Lib.hid hhd
      have HTL := Lib.hid htl
      have HH2 := Lib.hid hh2
      have HM2 := Lib.hid hm2
      clear hl hl2 h0 he h1 hn1 hn2 hhd htl hzx hh2 hm2
      go_enter Tryd.func30, Tryd.ntmps30
      go_wp2
      go_region
      go_wp2
      go_region
      go_wp2
      go_ret
      refine ⟨?_, (below_alloc (Below.refl _ _) _).drew.drew⟩
      have e : mkB (x.take n2 ++ 44 :: ((x.drop n2).take q ++ 44 :: x.drop n1)) = h2 ++ (((⟨#[44]⟩ : ByteArray) ++ m2) ++ ((⟨#[44]⟩ : ByteArray) ++ tlb)) := by
        rw [HH2.out, HM2.out, HTL.out, show (⟨#[44]⟩ : ByteArray) = mkB [44] from rfl, mkB_app, mkB_app, mkB_app, mkB_app]; simp
      rw [e]
      rfl
def number_commas.f (a0 : ByteArray) (l1_0 l1_1 : List S70) (a1_2 : Bool) (l1_3 l1_4 : List S70) (a1_5 a1_6 a1_7 a1_8 a1_9 a1_10 a1_11 a1_12 : Int) (a1_13 : ByteArray) (a1_14 : Bool) (a1_15 : Int) (a1_16 : Bool) (a1_17 a1_18 a1_19 : Int) : Option ByteArray :=
  if (0 ≤ a1_11 ∧ 0 ≤ a1_12 ∧ a0.size ≤ 100000000) ∧ (a1_11.toNat = 0 ∨ (a1_11.toNat < (N.L a0).length ∧ (a1_12.toNat ≠ a1_11.toNat → a1_11.toNat + a1_12.toNat < (N.L a0).length))) then some (mkB (N.commasN (N.L a0) a1_11.toNat a1_12.toNat)) else none
theorem number_commas.calls (a0 : ByteArray) (A1_0 : Option Addr) (c1_0 : Nat) (l1_0 : List S70) (A1_1 : Option Addr) (c1_1 : Nat) (l1_1 : List S70) (a1_2 : Bool) (A1_3 : Option Addr) (c1_3 : Nat) (l1_3 : List S70) (A1_4 : Option Addr) (c1_4 : Nat) (l1_4 : List S70) (a1_5 : Int) (a1_6 : Int) (a1_7 : Int) (a1_8 : Int) (a1_9 : Int) (a1_10 : Int) (a1_11 : Int) (a1_12 : Int) (a1_13 : ByteArray) (a1_14 : Bool) (a1_15 : Int) (a1_16 : Bool) (a1_17 : Int) (a1_18 : Int) (a1_19 : Int) (r : ByteArray) (w : World) (hr1_0 : Kd.C k70 w A1_0 l1_0.length l1_0) (hc1_0 : l1_0.length ≤ c1_0) (hr1_1 : Kd.C k70 w A1_1 l1_1.length l1_1) (hc1_1 : l1_1.length ≤ c1_1) (hr1_3 : Kd.C k70 w A1_3 l1_3.length l1_3) (hc1_3 : l1_3.length ≤ c1_3) (hr1_4 : Kd.C k70 w A1_4 l1_4.length l1_4) (hc1_4 : l1_4.length ≤ c1_4) (h : number_commas.f a0 l1_0 l1_1 a1_2 l1_3 l1_4 a1_5 a1_6 a1_7 a1_8 a1_9 a1_10 a1_11 a1_12 a1_13 a1_14 a1_15 a1_16 a1_17 a1_18 a1_19 = some r) :
    Calls Tryd.prog 30 #[.string a0, .agg #[.slice A1_0 l1_0.length c1_0, .slice A1_1 l1_1.length c1_1, .bool a1_2, .slice A1_3 l1_3.length c1_3, .slice A1_4 l1_4.length c1_4, .int .i64 a1_5, .int .i64 a1_6, .int .i64 a1_7, .int .i64 a1_8, .int .i64 a1_9, .int .i64 a1_10, .int .i64 a1_11, .int .i64 a1_12, .string a1_13, .bool a1_14, .int .i64 a1_15, .bool a1_16, .int .i64 a1_17, .int .i32 a1_18, .int .i64 a1_19]] w fun e w' => e = .returned (.string r) ∧ Below w.heap.size w w' := by
  unfold number_commas.f at h
  split at h
  · rename_i hb
    obtain ⟨⟨h1, h2, h3⟩, h4⟩ := hb
    obtain rfl := Option.some.inj h
    obtain ⟨p, rfl⟩ : ∃ p : Nat, a1_11 = (p : Int) := ⟨a1_11.toNat, by omega⟩
    obtain ⟨q, rfl⟩ : ∃ q : Nat, a1_12 = (q : Int) := ⟨a1_12.toNat, by omega⟩
    have := commas_walk (N.L a0) p q (w := w) (hx := by rw [N.L_len]; exact h3) (cs := #[.slice A1_0 l1_0.length c1_0, .slice A1_1 l1_1.length c1_1, .bool a1_2, .slice A1_3 l1_3.length c1_3, .slice A1_4 l1_4.length c1_4, .int .i64 a1_5, .int .i64 a1_6, .int .i64 a1_7, .int .i64 a1_8, .int .i64 a1_9, .int .i64 a1_10, .int .i64 (p : Int), .int .i64 (q : Int), .string a1_13, .bool a1_14, .int .i64 a1_15, .bool a1_16, .int .i64 a1_17, .int .i32 a1_18, .int .i64 a1_19]) rfl rfl h4
    rw [mkB_L] at this
    exact this
  · cases h
end Go.Proofs.YtgobcejjefgkcaaDoor.Print
