/- Package number's Print: what it answers. -/
import Derived.Test.YtgobcejjefgkcaaDoorNcm
import Derived.Deep.MidRow
import Derived.Deep.RegionHeld3
import Derived.Test.YtgobcejjefgkcaaDoorPrint1
import Derived.Test.YtgobcejjefgkcaaDoorPrint2
namespace Go.Proofs.YtgobcejjefgkcaaDoor.Print
open Go.RowKit Go.Proofs.YtgobcejjefgkcaaDoorW.PrintWords Go.Proofs.YtgobcejjefgkcaaDoorW.PrintLast Go.Proofs.YtgobcejjefgkcaaDoorW.PrintMore
set_option linter.unusedVariables false
set_option linter.unusedSimpArgs false

theorem wz {x : Int} (h0 : -9223372036854775808 ≤ x) (h1 : x ≤ 9223372036854775807) : wrap64 x = x := by unfold wrap64; omega
theorem repL (c : UInt8) : ∀ n, Lib.repeatL [c] n = List.replicate n c
  | 0 => rfl
  | n + 1 => by
    rw [List.replicate_succ, ← repL c n]
    rfl
theorem rep_ev (c : UInt8) (n : Int) (h : n ≤ 1000000000) : number_repeat.f ⟨#[c]⟩ n = some (mkB (N.rp c n)) := by
  unfold number_repeat.f strings_Repeat.f
  have hm : 0 ≤ mx n 0 ∧ mx n 0 ≤ 1000000000 ∧ (mx n 0).toNat = n.toNat := by unfold mx; split <;> omega
  rw [if_pos ⟨hm.1, hm.2.1, Nat.le_refl _⟩, hm.2.2]
  show some (⟨(Lib.repeatL [c] n.toNat).toArray⟩ : ByteArray) = _
  rw [repL]
  rfl
section
variable (l0 l1 l3 l4 : List S70) (b : Bool) (x17 x18 x19 : Int)
theorem least_f (p : N.NP) (g : N.Good p) (k : Nat) : number_least.f (k + 3) l0 l1 b l3 l4 p.minInt p.maxInt p.minFrac p.maxFrac p.minSig p.maxSig p.prim p.sec (mkB p.inc) p.sci p.minExp p.plus x17 x18 x19 = some (N.leastN p : Int) := by
  have h1 := g.p40
  have h2 := g.q40
  have hz : ∀ n : Int, n = (if p.maxFrac = 0 then 1 else 0 : Nat) → number_least.j0 (k + 3) n l0 l1 b l3 l4 p.minInt p.maxInt p.minFrac p.maxFrac p.minSig p.maxSig p.prim p.sec (mkB p.inc) p.sci p.minExp p.plus x17 x18 x19 = some (N.leastN p : Int) := by
    intro n hn
    have h2' : ∀ y : Bool, y = decide (0 < p.prim ∧ p.sec ≠ p.prim) → number_least.j2 (k + 1) n y l0 l1 b l3 l4 p.minInt p.maxInt p.minFrac p.maxFrac p.minSig p.maxSig p.prim p.sec (mkB p.inc) p.sci p.minExp p.plus x17 x18 x19 = some ((if 0 < p.prim ∧ p.sec ≠ p.prim then p.prim + p.sec + 1 else if 0 < p.prim then p.prim + 1 else if p.maxFrac = 0 then 1 else 0 : Nat) : Int) := by
      intro y hy
      unfold number_least.j2
      dsimp only
      by_cases c : 0 < p.prim ∧ p.sec ≠ p.prim
      · rw [if_pos c, if_pos (by rw [hy, decide_eq_true c]), wz (x := (p.prim : Int) + p.sec) (by omega) (by omega), wz (by omega) (by omega)]
        rfl
      · rw [if_neg c, if_neg (by rw [hy, decide_eq_false c]; simp)]
        by_cases c2 : 0 < p.prim
        · rw [if_pos c2, if_pos (by omega), wz (by omega) (by omega)]; rfl
        · rw [if_neg c2, if_neg (by omega), hn]
    have h1' : ∀ y : Bool, y = decide (p.sci = true ∧ p.minSig = 0) → number_least.j1 (k + 2) n y l0 l1 b l3 l4 p.minInt p.maxInt p.minFrac p.maxFrac p.minSig p.maxSig p.prim p.sec (mkB p.inc) p.sci p.minExp p.plus x17 x18 x19 = some (N.leastN p : Int) := by
      intro y hy
      unfold number_least.j1 N.leastN
      dsimp only
      by_cases c : p.sci = true ∧ p.minSig = 0
      · rw [if_pos c, if_pos (by rw [hy, decide_eq_true c])]
      · rw [if_neg c, if_neg (by rw [hy, decide_eq_false c]; simp)]
        by_cases c2 : 0 < p.prim
        · rw [if_pos (by omega), h2' _ (by
            by_cases e : p.sec = p.prim
            · rw [decide_eq_false (fun h => h.2 e), e]; simp
            · rw [decide_eq_true ⟨c2, e⟩]; exact bne_iff_ne.2 (by omega))]
        · rw [if_neg (by omega), h2' _ (by rw [decide_eq_false (fun h => c2 h.1)])]
    unfold number_least.j0
    dsimp only
    cases hs : p.sci with
    | true =>
      rw [if_pos rfl, ← hs]
      refine h1' _ ?_
      rw [hs]
      by_cases e : p.minSig = 0
      · rw [e, decide_eq_true ⟨rfl, rfl⟩]; rfl
      · rw [decide_eq_false (fun h => e h.2)]; exact beq_eq_false_iff_ne.2 (by omega)
    | false =>
      rw [if_neg (by simp), ← hs]
      refine h1' _ ?_
      rw [hs, decide_eq_false (fun h => by cases h.1)]
  unfold number_least.f
  by_cases e : p.maxFrac = 0
  · rw [if_pos (by omega)]
    exact hz 1 (by rw [if_pos e]; rfl)
  · rw [if_neg (by omega)]
    exact hz 0 (by rw [if_neg e]; rfl)
end
theorem rep_calls (c : UInt8) (n : Int) (w : World) (h : n ≤ 1000000000) : Calls Tryd.prog 28 #[.string ⟨#[c]⟩, .int .i64 n] w fun e w' => ∃ (z : ByteArray) (k : Nat), e = .returned (.string z) ∧ z = mkB (N.rp c n) ∧ z.size = k ∧ k = n.toNat ∧ Below w.heap.size w w' :=
  (number_repeat.calls ⟨#[c]⟩ n _ w (rep_ev c n h)).mono fun e w' ⟨he, hb⟩ => ⟨_, _, he, rfl, mkB_size _, N.rp_len _ _, hb⟩
theorem least_calls (p : N.NP) (g : N.Good p) (w : World) : Calls Tryd.prog 29 #[.agg (patN p)] w fun e w' => e = .returned (.int .i64 (N.leastN p : Int)) ∧ Below w.heap.size w w' :=
  number_least.calls 3 none 0 [] none 0 [] false none 0 [] none 0 [] p.minInt p.maxInt p.minFrac p.maxFrac p.minSig p.maxSig p.prim p.sec (mkB p.inc) p.sci p.minExp p.plus 0 0 0 _ w (Kd.C_nil _ _) (Nat.le_refl _) (Kd.C_nil _ _) (Nat.le_refl _) (Kd.C_nil _ _) (Nat.le_refl _) (Kd.C_nil _ _) (Nat.le_refl _) (least_f [] [] [] [] false 0 0 0 p g 0)
theorem row_range {w : World} {b : Nat} {t : TypeId} {cs : Array Value} (h : w.heap[b]? = some (.cells cs t (0, 0))) : w.rangeAt b 0 cs.toList := fun j v hv => by
  rw [Nat.zero_add, blk_cell h j]
  rwa [← Array.getElem?_toList]
theorem leastN_le {p : N.NP} (g : N.Good p) : N.leastN p ≤ 81 := by
  have := g.x40
  have := g.p40
  have := g.q40
  unfold N.leastN
  repeat' split
  all_goals omega
/-- What is known of the pattern's block. -/
theorem patN_cells {p : N.NP} {cs : Array Value} (hcs : cs = patN p) {W : World} {b : Nat} (h : W.heap[b]? = some (.cells cs 25 (0, 0))) :
    W.cell? ⟨b, 5, none⟩ = some (.int .i64 (p.minInt : Int)) ∧ W.cell? ⟨b, 7, none⟩ = some (.int .i64 (p.minFrac : Int)) ∧ W.cell? ⟨b, 8, none⟩ = some (.int .i64 (p.maxFrac : Int)) ∧ W.cell? ⟨b, 9, none⟩ = some (.int .i64 (p.minSig : Int)) ∧ W.cell? ⟨b, 10, none⟩ = some (.int .i64 (p.maxSig : Int)) ∧ W.cell? ⟨b, 13, none⟩ = some (.string (mkB p.inc)) ∧ W.cell? ⟨b, 14, none⟩ = some (.bool p.sci) ∧ W.cell? ⟨b, 15, none⟩ = some (.int .i64 (p.minExp : Int)) ∧ W.cell? ⟨b, 16, none⟩ = some (.bool p.plus) := by
  subst hcs
  exact ⟨blk_cell h 5, blk_cell h 7, blk_cell h 8, blk_cell h 9, blk_cell h 10, blk_cell h 13, blk_cell h 14, blk_cell h 15, blk_cell h 16⟩
set_option maxHeartbeats 8000000 in
set_option maxRecDepth 1000000 in
theorem print_walk (p : N.NP) (g : N.Good p) (cs : Array Value) (hcs : cs = patN p) (m : Int) (hm : m ≤ 1000000) (w : World) (mi : Nat) (mf xf ms xs me le : Int) (icn : Nat) (ic : ByteArray) (sci pl : Bool)
    (e1 : mi = p.minInt) (e2 : mf = p.minFrac) (e3 : xf = p.maxFrac) (e4 : ms = p.minSig) (e5 : xs = p.maxSig) (e6 : me = p.minExp) (e7 : le = N.leastN p) (e8 : ic = mkB p.inc) (e9 : sci = p.sci) (e10 : pl = p.plus) (e11 : ic.size = icn) (R : ByteArray) (hR : R = mkB (N.printN p m)) :
    Calls Tryd.prog 13 #[.agg cs, .int .i64 m] w fun e w' => e = .returned (.string R) ∧ Below w.heap.size w w' := by
  have HREP : Hid (∀ (c : UInt8) (n : Int) (w : World), n ≤ 1000000000 → Calls Tryd.prog 28 #[.string ⟨#[c]⟩, .int .i64 n] w fun e w' => ∃ (z : ByteArray) (k : Nat), e = .returned (.string z) ∧ z = mkB (N.rp c n) ∧ z.size = k ∧ k = n.toNat ∧ Below w.heap.size w w') := Lib.hid rep_calls
  have HLEAST : Hid (∀ w : World, Calls Tryd.prog 29 #[.agg cs] w fun e w' => e = .returned (.int .i64 le) ∧ Below w.heap.size w w') := Lib.hid (by rw [hcs, e7]; exact least_calls p g)
  have HCELLS : Hid (∀ (W : World) (b : Nat), W.heap[b]? = some (.cells cs 25 (0, 0)) → W.cell? ⟨b, 5, none⟩ = some (.int .i64 (mi : Int)) ∧ W.cell? ⟨b, 7, none⟩ = some (.int .i64 mf) ∧ W.cell? ⟨b, 8, none⟩ = some (.int .i64 xf) ∧ W.cell? ⟨b, 9, none⟩ = some (.int .i64 ms) ∧ W.cell? ⟨b, 10, none⟩ = some (.int .i64 xs) ∧ W.cell? ⟨b, 13, none⟩ = some (.string ic) ∧ W.cell? ⟨b, 14, none⟩ = some (.bool sci) ∧ W.cell? ⟨b, 15, none⟩ = some (.int .i64 me) ∧ W.cell? ⟨b, 16, none⟩ = some (.bool pl)) :=
    Lib.hid fun W b h => by rw [e1, e2, e3, e4, e5, e6, e8, e9, e10]; exact patN_cells hcs h
  have HSZ : Hid (cs.size = 20) := Lib.hid (by rw [hcs]; rfl)
  have HCOM : Hid (∀ (s : ByteArray) (x : List UInt8) (W : World), s = mkB x → x.length ≤ 100000000 → (p.prim = 0 ∨ (p.prim < x.length ∧ (p.sec ≠ p.prim → p.prim + p.sec < x.length))) → Calls Tryd.prog 30 #[.string s, .agg cs] W fun e w' => ∃ (y : ByteArray) (yn : Nat), e = .returned (.string y) ∧ y = mkB (N.commasN x p.prim p.sec) ∧ y.size = yn ∧ yn ≤ x.length + 2 ∧ Below W.heap.size W w') :=
    Lib.hid fun s x W hs hx hl => by
      subst hs
      refine (commas_walk x p.prim p.sec cs W hx (by rw [hcs]; rfl) (by rw [hcs]; rfl) hl).mono fun e w' ⟨he, hb⟩ => ⟨_, _, he, rfl, mkB_size _, ?_, hb⟩
      rw [N.commas_len x p.prim p.sec hl]
      repeat' split
      all_goals omega
  have hb1 : (mi : Int) ≤ 40 := by have := g.i40; omega
  have hb2 : mf ≤ 40 := by have := g.f40; have := g.ff; omega
  have hb3 : 0 ≤ mf := by omega
  have hb4 : icn ≤ 40 := by rw [← e11, e8, mkB_size]; exact g.n40
  have hwz : ∀ x : Int, -9223372036854775808 ≤ x → x ≤ 9223372036854775807 → IntKind.i64.wrap x = x := fun x h0 h1 => (i64_w x).trans (wz h0 h1)
  have hc1 := hwz ((mi : Int) + mf) (by omega) (by omega)
  have hc2 := hwz ((mi : Int) + mf - (icn : Int)) (by omega) (by omega)
  have HG0 := Lib.hid (heap_alloc_new w (.cells cs 25 (0, 0)))
  have HB0 := Lib.hid ((Below.refl w.heap.size w).alloc (Nat.le_refl _) (.cells cs 25 (0, 0)))
  obtain ⟨c5, c7, c8, c9, c10, c13, c14, c15, c16⟩ := HCELLS.out _ _ HG0.out
  have HG := Lib.hid g
  have HE := Lib.hid (And.intro e1 (And.intro e2 (And.intro e3 (And.intro e4 (And.intro e5 (And.intro e6 (And.intro e7 (And.intro e8 (And.intro e9 (And.intro e10 hR))))))))))
  clear g hcs e1 e2 e3 e4 e5 e6 e7 e8 e9 e10 hR
  -- THE WALK
  go_enter Tryd.func13, Tryd.ntmps13
  go_wp2
  go_region_held3 (fun w' => w'.cell? ⟨w.heap.size, 5, none⟩ = some (.int .i64 (mi : Int)) ∧ w'.cell? ⟨w.heap.size, 7, none⟩ = some (.int .i64 mf) ∧ w'.cell? ⟨w.heap.size, 13, none⟩ = some (.string ic)) (first | go_keep | assumption)
    (first
      | (go_at_call 28; (with_reducible refine (HREP.out 48 _ _ (by omega)).mono ?_); rintro e W1 ⟨z1, k1, rfl, q1, s1, hk1, b1⟩; have f3 : (mi : Int) ≤ ((k1 + icn : Nat) : Int) := (by omega); have hk40 : k1 ≤ 80 := (by omega); have fa1 : z1.size + ic.size ≤ 9223372036854775807 := (by omega); have fb1 : k1 + icn ≤ 9223372036854775807 := (by omega); have fc1 : (9223372036854775807 < k1 + icn) = False := eq_false (by omega); have HG1 := Lib.hid (heap_keeps b1 (by first | exact HG0.out | exact blk_drew (HG0.out) | exact blk_drew (blk_drew (HG0.out)))); have HB1 := Lib.hid (below_step (by first | exact HB0.out | exact (HB0.out).drew | exact ((HB0.out).drew).drew) b1); have Q1 := Lib.hid q1; have K1 := Lib.hid hk1; clear q1 hk1 b1; obtain ⟨d15, d17, d18, d19, d110, d113, d114, d115, d116⟩ := HCELLS.out _ _ HG1.out))
  obtain ⟨dw, hdw⟩ : ∃ x, x = (z1 ++ ic).extract 0 mi := ⟨_, rfl⟩
  obtain ⟨df, hdf⟩ : ∃ x, x = (z1 ++ ic).extract mi (k1 + icn) := ⟨_, rfl⟩
  have HDG : z1 ++ ic = mkB (N.digitsN p) := by
    obtain ⟨h1, h2, h3, h4, h5, h6, h7, h8, h9, h10, hR⟩ := HE.out
    rw [Q1.out, h8, mkB_app, h1, h2, ← e11, h8, mkB_size]
    rfl
  have HDL := N.digits_len HG.out
  have hmi : mi = p.minInt := HE.out.1
  have hkd : k1 + icn = (N.digitsN p).length := by
    have := congrArg ByteArray.size HDG
    rw [ByteArray.size_append, mkB_size] at this
    omega
  have HDW : Hid (dw = mkB ((N.digitsN p).take p.minInt)) := Lib.hid (by rw [hdw, HDG, mkB_to, hmi])
  have HDF : Hid (df = mkB ((N.digitsN p).drop p.minInt)) := Lib.hid (by rw [hdf, HDG, hkd, ← mkB_size (N.digitsN p), mkB_from, hmi])
  have sdw : dw.size = mi := by rw [HDW.out, mkB_size, List.length_take]; omega
  obtain ⟨fn, hfn⟩ : ∃ n : Nat, n = p.minFrac := ⟨_, rfl⟩
  have sdf : df.size = fn := by rw [HDF.out, mkB_size, List.length_drop]; omega
  have hfn40 : fn ≤ 40 := by have := HG.out.f40; have := HG.out.ff; omega
  replace hdw := hdw.symm
  replace hdf := hdf.symm
  clear HDG HDL hmi hkd hfn
  clear c5 c7 c8 c9 c10 c13 c14 c15 c16
  have hms0 : 0 ≤ ms := by rw [HE.out.2.2.2.1]; omega
  have hxs4 : xs ≤ 40 ∧ ms ≤ xs := by have h1 := HE.out.2.2.2.2.1; have h2 := HE.out.2.2.2.1; have := HG.out.s40; have := HG.out.ss; omega
  obtain ⟨hxs5, hxs6⟩ := hxs4
  have hc5 := hwz (xs - ms) (by omega) (by omega)
  have hxf0 : 0 ≤ xf ∧ xf ≤ 40 ∧ mf ≤ xf := by have h1 := HE.out.2.2.1; have h2 := HE.out.2.1; have := HG.out.f40; have := HG.out.ff; omega
  obtain ⟨hxf1, hxf2, hxf3⟩ := hxf0
  have hc6 := hwz (xf - mf) (by omega) (by omega)
  have hme9 : me ≤ 9 := by have h1 := HE.out.2.2.2.2.2.1; have := HG.out.e9; omega
  have hle : 0 ≤ le ∧ le ≤ 81 := by
    have h1 := HE.out.2.2.2.2.2.2.1
    rw [h1]
    refine ⟨Int.natCast_nonneg _, ?_⟩
    have := leastN_le HG.out
    omega
  obtain ⟨hle1, hle2⟩ := hle
  have fap1 : (⟨#[46]⟩ : ByteArray).size + df.size ≤ 9223372036854775807 := (by rw [show (⟨#[46]⟩ : ByteArray).size = 1 by first | assumption | rfl, show df.size = fn by first | assumption | rfl]; omega); have fbp1 : 1 + fn ≤ 9223372036854775807 := (by omega); have fcp1 : (9223372036854775807 < 1 + fn) = False := eq_false (by omega); obtain ⟨p1, hp1⟩ : ∃ x, x = (⟨#[46]⟩ : ByteArray) ++ df := ⟨_, rfl⟩; obtain ⟨p1n, hp1n⟩ : ∃ x : Nat, x = 1 + fn := ⟨_, rfl⟩; have szp1 : p1.size = p1n := (by rw [hp1, ByteArray.size_append, show (⟨#[46]⟩ : ByteArray).size = 1 by first | assumption | rfl, show df.size = fn by first | assumption | rfl, hp1n]); have bdp1 : p1n ≤ 100 := (by omega); have Vp1 := Lib.hid hp1; replace hp1 := hp1.symm; clear hp1n
  by_cases hms : 0 < ms
  · skip
    go_wp2
    go_region
    go_wp2
    go_region_held3 (fun w' => w'.cell? ⟨w.heap.size, 9, none⟩ = some (.int .i64 ms) ∧ w'.cell? ⟨w.heap.size, 10, none⟩ = some (.int .i64 xs)) (first | go_keep | assumption)
      (first
        | (go_at_call 28; (with_reducible refine (HREP.out 35 _ _ (by omega)).mono ?_); rintro e W3 ⟨z3, k3, rfl, q3, s3, hk3, b3⟩; have hk3b : k3 ≤ 40 := (by omega); have fau : z2.size + z3.size ≤ 9223372036854775807 := (by rw [show z2.size = k2 by first | assumption | rfl, show z3.size = k3 by first | assumption | rfl]; omega); have fbu : k2 + k3 ≤ 9223372036854775807 := (by omega); have fcu : (9223372036854775807 < k2 + k3) = False := eq_false (by omega); obtain ⟨u, hu⟩ : ∃ x, x = z2 ++ z3 := ⟨_, rfl⟩; obtain ⟨un, hun⟩ : ∃ x : Nat, x = k2 + k3 := ⟨_, rfl⟩; have szu : u.size = un := (by rw [hu, ByteArray.size_append, show z2.size = k2 by first | assumption | rfl, show z3.size = k3 by first | assumption | rfl, hun]); have bdu : un ≤ 80 := (by omega); have Vu := Lib.hid hu; replace hu := hu.symm; clear hun; have HG3 := Lib.hid (heap_keeps b3 (by first | exact HG2.out | exact blk_drew (HG2.out) | exact blk_drew (blk_drew (HG2.out)))); have HB3 := Lib.hid (below_step (by first | exact HB2.out | exact (HB2.out).drew | exact ((HB2.out).drew).drew) b3); have Q3 := Lib.hid q3; have K3 := Lib.hid hk3; clear q3 hk3 b3; obtain ⟨d35, d37, d38, d39, d310, d313, d314, d315, d316⟩ := HCELLS.out _ _ HG3.out)
        | (go_at_call 28; (with_reducible refine (HREP.out 64 _ _ (by omega)).mono ?_); rintro e W2 ⟨z2, k2, rfl, q2, s2, hk2, b2⟩; have hk2b : k2 ≤ 40 := (by omega); have HG2 := Lib.hid (heap_keeps b2 (by first | exact HG1.out | exact blk_drew (HG1.out) | exact blk_drew (blk_drew (HG1.out)))); have HB2 := Lib.hid (below_step (by first | exact HB1.out | exact (HB1.out).drew | exact ((HB1.out).drew).drew) b2); have Q2 := Lib.hid q2; have K2 := Lib.hid hk2; clear q2 hk2 b2; obtain ⟨d25, d27, d28, d29, d210, d213, d214, d215, d216⟩ := HCELLS.out _ _ HG2.out))
    have HU : Hid (u = mkB (N.wholeP p)) := Lib.hid (by rw [Vu.out, Q2.out, Q3.out, mkB_app, HE.out.2.2.2.1, HE.out.2.2.2.2.1]; unfold N.wholeP; rw [if_pos (by have := HE.out.2.2.2.1; omega)])
    have hc7 := hwz (le - (un : Int)) (by omega) (by omega)
    have HG5 := HG3
    have HB5 := HB3
    have hways : (sci = false ∧ 0 < xf) ∨ (sci = false ∧ ¬ 0 < xf) ∨ (pl = true ∧ sci = true ∧ 0 < xf) ∨ (pl = false ∧ sci = true ∧ 0 < xf) ∨ (pl = true ∧ sci = true ∧ ¬ 0 < xf) ∨ (pl = false ∧ sci = true ∧ ¬ 0 < xf) := by
      by_cases h : 0 < xf <;> cases sci <;> cases pl <;> simp [h]
    rcases hways with ⟨hsc, hxf⟩ | ⟨hsc, hxf⟩ | ⟨hpl, hsc, hxf⟩ | ⟨hpl, hsc, hxf⟩ | ⟨hpl, hsc, hxf⟩ | ⟨hpl, hsc, hxf⟩
    · -- sci False, maxFrac True, plus None
      subst hsc
      go_wp2_with (first
        | ((with_reducible refine gate_dst (N := 43) rfl ?_); refine wpList_load_mid rfl 25 (.tmp 2) rfl w.heap.size 0 rfl cs.toList _ (row_range (HG5.out)) Tryd.underlying25 rfl (by rw [Array.length_toList, HSZ.out]; kernel_rfl) ?_)
        | (go_at_call 29; (with_reducible refine (HLEAST.out _).mono ?_); rintro e W6 ⟨rfl, b6⟩; have HG6 := Lib.hid (heap_keeps b6 HG5.out); have HB6 := Lib.hid (below_step HB5.out b6); clear b6)
        | (go_at_call 28; (with_reducible refine (HREP.out 35 _ _ (by omega)).mono ?_); rintro e W10 ⟨z10, k10, rfl, q10, s10, hk10, b10⟩; have hk10b : k10 ≤ 40 := (by omega); have fap2 : p1.size + z10.size ≤ 9223372036854775807 := (by rw [show p1.size = p1n by first | assumption | rfl, show z10.size = k10 by first | assumption | rfl]; omega); have fbp2 : p1n + k10 ≤ 9223372036854775807 := (by omega); have fcp2 : (9223372036854775807 < p1n + k10) = False := eq_false (by omega); obtain ⟨p2, hp2⟩ : ∃ x, x = p1 ++ z10 := ⟨_, rfl⟩; obtain ⟨p2n, hp2n⟩ : ∃ x : Nat, x = p1n + k10 := ⟨_, rfl⟩; have szp2 : p2.size = p2n := (by rw [hp2, ByteArray.size_append, show p1.size = p1n by first | assumption | rfl, show z10.size = k10 by first | assumption | rfl, hp2n]); have bdp2 : p2n ≤ 200 := (by omega); have Vp2 := Lib.hid hp2; replace hp2 := hp2.symm; clear hp2n; have fay2 : y.size + p2.size ≤ 9223372036854775807 := (by rw [show y.size = yn by first | assumption | rfl, show p2.size = p2n by first | assumption | rfl]; omega); have fby2 : yn + p2n ≤ 9223372036854775807 := (by omega); have fcy2 : (9223372036854775807 < yn + p2n) = False := eq_false (by omega); obtain ⟨y2, hy2⟩ : ∃ x, x = y ++ p2 := ⟨_, rfl⟩; obtain ⟨y2n, hy2n⟩ : ∃ x : Nat, x = yn + p2n := ⟨_, rfl⟩; have szy2 : y2.size = y2n := (by rw [hy2, ByteArray.size_append, show y.size = yn by first | assumption | rfl, show p2.size = p2n by first | assumption | rfl, hy2n]); have bdy2 : y2n ≤ 1000600 := (by omega); have Vy2 := Lib.hid hy2; replace hy2 := hy2.symm; clear hy2n; have HG10 := Lib.hid (heap_keeps b10 HG9.out); have HB10 := Lib.hid (below_step HB9.out b10); have Q10 := Lib.hid q10; have K10 := Lib.hid hk10; clear q10 hk10 b10; obtain ⟨d105, d107, d108, d109, d1010, d1013, d1014, d1015, d1016⟩ := HCELLS.out _ _ HG10.out)
        | (go_at_call 30; (with_reducible refine (HCOM.out _ (N.moreP p m) _ HX.out (by have h_ := congrArg ByteArray.size HX.out; rw [mkB_size] at h_; omega) (N.more_long HG.out m)).mono ?_); rintro e W9 ⟨y, yn, rfl, q9, s9, bd9, b9⟩; have hyn : yn ≤ 1000300 := (by have h_ := congrArg ByteArray.size HX.out; rw [mkB_size] at h_; omega); have HG9 := Lib.hid (heap_keeps b9 HG8.out); have HB9 := Lib.hid (below_step HB8.out b9); have Q9 := Lib.hid q9; clear q9 b9 bd9; obtain ⟨d95, d97, d98, d99, d910, d913, d914, d915, d916⟩ := HCELLS.out _ _ HG9.out)
        | ((with_reducible refine gate_dst (N := 59) rfl ?_); refine wpList_load_mid rfl 25 (.tmp 2) rfl w.heap.size 0 rfl cs.toList _ (row_range (HG8.out)) Tryd.underlying25 rfl (by rw [Array.length_toList, HSZ.out]; kernel_rfl) ?_)
        | (go_at_call 28; (with_reducible refine (HREP.out 35 _ _ (by omega)).mono ?_); rintro e W8 ⟨z8, k8, rfl, q8, s8, hk8, b8⟩; have hk8b : k8 ≤ 1000000 := (by omega); have fax : z8.size + v.size ≤ 9223372036854775807 := (by rw [show z8.size = k8 by first | assumption | rfl, show v.size = vn by first | assumption | rfl]; omega); have fbx : k8 + vn ≤ 9223372036854775807 := (by omega); have fcx : (9223372036854775807 < k8 + vn) = False := eq_false (by omega); obtain ⟨x, hx⟩ : ∃ x, x = z8 ++ v := ⟨_, rfl⟩; obtain ⟨xn, hxn⟩ : ∃ x : Nat, x = k8 + vn := ⟨_, rfl⟩; have szx : x.size = xn := (by rw [hx, ByteArray.size_append, show z8.size = k8 by first | assumption | rfl, show v.size = vn by first | assumption | rfl, hxn]); have bdx : xn ≤ 1000200 := (by omega); have Vx := Lib.hid hx; replace hx := hx.symm; clear hxn; have HX : Hid (x = mkB (N.moreP p m)) := Lib.hid (by rw [Vx.out, q8, HV.out, mkB_app]; unfold N.moreP; rw [if_neg (by rw [← HE.out.2.2.2.2.2.2.2.2.1]; simp)]); have HG8 := Lib.hid (heap_keeps b8 HG7.out); have HB8 := Lib.hid (below_step HB7.out b8); have Q8 := Lib.hid q8; have K8 := Lib.hid hk8; clear q8 hk8 b8; obtain ⟨d85, d87, d88, d89, d810, d813, d814, d815, d816⟩ := HCELLS.out _ _ HG8.out)
        | (go_at_call 28; (with_reducible refine (HREP.out 35 _ _ (by omega)).mono ?_); rintro e W7 ⟨z7, k7, rfl, q7, s7, hk7, b7⟩; have hk7b : k7 ≤ 81 := (by omega); have fav : z7.size + u.size ≤ 9223372036854775807 := (by rw [show z7.size = k7 by first | assumption | rfl, show u.size = un by first | assumption | rfl]; omega); have fbv : k7 + un ≤ 9223372036854775807 := (by omega); have fcv : (9223372036854775807 < k7 + un) = False := eq_false (by omega); obtain ⟨v, hv⟩ : ∃ x, x = z7 ++ u := ⟨_, rfl⟩; obtain ⟨vn, hvn⟩ : ∃ x : Nat, x = k7 + un := ⟨_, rfl⟩; have szv : v.size = vn := (by rw [hv, ByteArray.size_append, show z7.size = k7 by first | assumption | rfl, show u.size = un by first | assumption | rfl, hvn]); have bdv : vn ≤ 200 := (by omega); have Vv := Lib.hid hv; replace hv := hv.symm; clear hvn; have HV : Hid (v = mkB (N.padP p)) := Lib.hid (by rw [Vv.out, q7, HU.out, mkB_app, ← szu, HU.out, mkB_size, HE.out.2.2.2.2.2.2.1]; rfl); have HG7 := Lib.hid (heap_keeps b7 HG6.out); have HB7 := Lib.hid (below_step HB6.out b7); have Q7 := Lib.hid q7; have K7 := Lib.hid hk7; clear q7 hk7 b7; obtain ⟨d75, d77, d78, d79, d710, d713, d714, d715, d716⟩ := HCELLS.out _ _ HG7.out)
      )
      go_ret
      refine ⟨?_, HB10.out⟩
      have HR := HE.out.2.2.2.2.2.2.2.2.2.2
      have e3 := HE.out.2.2.1
      have e2 := HE.out.2.1
      have e6 := HE.out.2.2.2.2.2.1
      have e9 := HE.out.2.2.2.2.2.2.2.2.1
      have e10 := HE.out.2.2.2.2.2.2.2.2.2.1
      have hfr : N.fracP p = 46 :: ((N.digitsN p).drop p.minInt ++ N.rp 35 ((p.maxFrac : Int) - p.minFrac)) := by
        unfold N.fracP
        exact if_pos (by omega)
      have hex : N.expP p = [] := by
        unfold N.expP
        rw [← e9]
        rfl
      rw [HR]
      unfold N.printN
      rw [hfr, hex]
      rw [Vy2.out, Q9.out, Vp2.out, Vp1.out, HDF.out, Q10.out, e3, e2, show (⟨#[46]⟩ : ByteArray) = mkB [46] from rfl]
      simp only [mkB_app]
      simp
    · -- sci False, maxFrac False, plus None
      subst hsc
      go_wp2_with (first
        | ((with_reducible refine gate_dst (N := 43) rfl ?_); refine wpList_load_mid rfl 25 (.tmp 2) rfl w.heap.size 0 rfl cs.toList _ (row_range (HG5.out)) Tryd.underlying25 rfl (by rw [Array.length_toList, HSZ.out]; kernel_rfl) ?_)
        | (go_at_call 29; (with_reducible refine (HLEAST.out _).mono ?_); rintro e W6 ⟨rfl, b6⟩; have HG6 := Lib.hid (heap_keeps b6 HG5.out); have HB6 := Lib.hid (below_step HB5.out b6); clear b6)
        | (go_at_call 30; (with_reducible refine (HCOM.out _ (N.moreP p m) _ HX.out (by have h_ := congrArg ByteArray.size HX.out; rw [mkB_size] at h_; omega) (N.more_long HG.out m)).mono ?_); rintro e W9 ⟨y, yn, rfl, q9, s9, bd9, b9⟩; have hyn : yn ≤ 1000300 := (by have h_ := congrArg ByteArray.size HX.out; rw [mkB_size] at h_; omega); have HG9 := Lib.hid (heap_keeps b9 HG8.out); have HB9 := Lib.hid (below_step HB8.out b9); have Q9 := Lib.hid q9; clear q9 b9 bd9; obtain ⟨d95, d97, d98, d99, d910, d913, d914, d915, d916⟩ := HCELLS.out _ _ HG9.out)
        | ((with_reducible refine gate_dst (N := 59) rfl ?_); refine wpList_load_mid rfl 25 (.tmp 2) rfl w.heap.size 0 rfl cs.toList _ (row_range (HG8.out)) Tryd.underlying25 rfl (by rw [Array.length_toList, HSZ.out]; kernel_rfl) ?_)
        | (go_at_call 28; (with_reducible refine (HREP.out 35 _ _ (by omega)).mono ?_); rintro e W8 ⟨z8, k8, rfl, q8, s8, hk8, b8⟩; have hk8b : k8 ≤ 1000000 := (by omega); have fax : z8.size + v.size ≤ 9223372036854775807 := (by rw [show z8.size = k8 by first | assumption | rfl, show v.size = vn by first | assumption | rfl]; omega); have fbx : k8 + vn ≤ 9223372036854775807 := (by omega); have fcx : (9223372036854775807 < k8 + vn) = False := eq_false (by omega); obtain ⟨x, hx⟩ : ∃ x, x = z8 ++ v := ⟨_, rfl⟩; obtain ⟨xn, hxn⟩ : ∃ x : Nat, x = k8 + vn := ⟨_, rfl⟩; have szx : x.size = xn := (by rw [hx, ByteArray.size_append, show z8.size = k8 by first | assumption | rfl, show v.size = vn by first | assumption | rfl, hxn]); have bdx : xn ≤ 1000200 := (by omega); have Vx := Lib.hid hx; replace hx := hx.symm; clear hxn; have HX : Hid (x = mkB (N.moreP p m)) := Lib.hid (by rw [Vx.out, q8, HV.out, mkB_app]; unfold N.moreP; rw [if_neg (by rw [← HE.out.2.2.2.2.2.2.2.2.1]; simp)]); have HG8 := Lib.hid (heap_keeps b8 HG7.out); have HB8 := Lib.hid (below_step HB7.out b8); have Q8 := Lib.hid q8; have K8 := Lib.hid hk8; clear q8 hk8 b8; obtain ⟨d85, d87, d88, d89, d810, d813, d814, d815, d816⟩ := HCELLS.out _ _ HG8.out)
        | (go_at_call 28; (with_reducible refine (HREP.out 35 _ _ (by omega)).mono ?_); rintro e W7 ⟨z7, k7, rfl, q7, s7, hk7, b7⟩; have hk7b : k7 ≤ 81 := (by omega); have fav : z7.size + u.size ≤ 9223372036854775807 := (by rw [show z7.size = k7 by first | assumption | rfl, show u.size = un by first | assumption | rfl]; omega); have fbv : k7 + un ≤ 9223372036854775807 := (by omega); have fcv : (9223372036854775807 < k7 + un) = False := eq_false (by omega); obtain ⟨v, hv⟩ : ∃ x, x = z7 ++ u := ⟨_, rfl⟩; obtain ⟨vn, hvn⟩ : ∃ x : Nat, x = k7 + un := ⟨_, rfl⟩; have szv : v.size = vn := (by rw [hv, ByteArray.size_append, show z7.size = k7 by first | assumption | rfl, show u.size = un by first | assumption | rfl, hvn]); have bdv : vn ≤ 200 := (by omega); have Vv := Lib.hid hv; replace hv := hv.symm; clear hvn; have HV : Hid (v = mkB (N.padP p)) := Lib.hid (by rw [Vv.out, q7, HU.out, mkB_app, ← szu, HU.out, mkB_size, HE.out.2.2.2.2.2.2.1]; rfl); have HG7 := Lib.hid (heap_keeps b7 HG6.out); have HB7 := Lib.hid (below_step HB6.out b7); have Q7 := Lib.hid q7; have K7 := Lib.hid hk7; clear q7 hk7 b7; obtain ⟨d75, d77, d78, d79, d710, d713, d714, d715, d716⟩ := HCELLS.out _ _ HG7.out)
      )
      go_ret
      refine ⟨?_, HB9.out⟩
      have HR := HE.out.2.2.2.2.2.2.2.2.2.2
      have e3 := HE.out.2.2.1
      have e2 := HE.out.2.1
      have e6 := HE.out.2.2.2.2.2.1
      have e9 := HE.out.2.2.2.2.2.2.2.2.1
      have e10 := HE.out.2.2.2.2.2.2.2.2.2.1
      have hfr : N.fracP p = [] := by
        unfold N.fracP
        exact if_neg (by omega)
      have hex : N.expP p = [] := by
        unfold N.expP
        rw [← e9]
        rfl
      rw [HR]
      unfold N.printN
      rw [hfr, hex]
      rw [Q9.out]
      simp only [mkB_app]
      simp
    · -- sci True, maxFrac True, plus True
      subst hsc
      subst hpl
      go_wp2_with (first
        | ((with_reducible refine gate_dst (N := 43) rfl ?_); refine wpList_load_mid rfl 25 (.tmp 2) rfl w.heap.size 0 rfl cs.toList _ (row_range (HG5.out)) Tryd.underlying25 rfl (by rw [Array.length_toList, HSZ.out]; kernel_rfl) ?_)
        | (go_at_call 29; (with_reducible refine (HLEAST.out _).mono ?_); rintro e W6 ⟨rfl, b6⟩; have HG6 := Lib.hid (heap_keeps b6 HG5.out); have HB6 := Lib.hid (below_step HB5.out b6); clear b6)
        | (go_at_call 28; (with_reducible refine (HREP.out 48 _ _ (by omega)).mono ?_); rintro e W11 ⟨z11, k11, rfl, q11, s11, hk11, b11⟩; have hk11b : k11 ≤ 9 := (by omega); have fay4 : y3.size + z11.size ≤ 9223372036854775807 := (by rw [show y3.size = y3n by first | assumption | rfl, show z11.size = k11 by first | assumption | rfl]; omega); have fby4 : y3n + k11 ≤ 9223372036854775807 := (by omega); have fcy4 : (9223372036854775807 < y3n + k11) = False := eq_false (by omega); obtain ⟨y4, hy4⟩ : ∃ x, x = y3 ++ z11 := ⟨_, rfl⟩; obtain ⟨y4n, hy4n⟩ : ∃ x : Nat, x = y3n + k11 := ⟨_, rfl⟩; have szy4 : y4.size = y4n := (by rw [hy4, ByteArray.size_append, show y3.size = y3n by first | assumption | rfl, show z11.size = k11 by first | assumption | rfl, hy4n]); have bdy4 : y4n ≤ 1000700 := (by omega); have Vy4 := Lib.hid hy4; replace hy4 := hy4.symm; clear hy4n; have HG11 := Lib.hid (heap_keeps b11 HG10.out); have HB11 := Lib.hid (below_step HB10.out b11); have Q11 := Lib.hid q11; have K11 := Lib.hid hk11; clear q11 hk11 b11; obtain ⟨d115, d117, d118, d119, d1110, d1113, d1114, d1115, d1116⟩ := HCELLS.out _ _ HG11.out)
        | (go_at_call 28; (with_reducible refine (HREP.out 35 _ _ (by omega)).mono ?_); rintro e W10 ⟨z10, k10, rfl, q10, s10, hk10, b10⟩; have hk10b : k10 ≤ 40 := (by omega); have fap2 : p1.size + z10.size ≤ 9223372036854775807 := (by rw [show p1.size = p1n by first | assumption | rfl, show z10.size = k10 by first | assumption | rfl]; omega); have fbp2 : p1n + k10 ≤ 9223372036854775807 := (by omega); have fcp2 : (9223372036854775807 < p1n + k10) = False := eq_false (by omega); obtain ⟨p2, hp2⟩ : ∃ x, x = p1 ++ z10 := ⟨_, rfl⟩; obtain ⟨p2n, hp2n⟩ : ∃ x : Nat, x = p1n + k10 := ⟨_, rfl⟩; have szp2 : p2.size = p2n := (by rw [hp2, ByteArray.size_append, show p1.size = p1n by first | assumption | rfl, show z10.size = k10 by first | assumption | rfl, hp2n]); have bdp2 : p2n ≤ 200 := (by omega); have Vp2 := Lib.hid hp2; replace hp2 := hp2.symm; clear hp2n; have fay2 : y.size + p2.size ≤ 9223372036854775807 := (by rw [show y.size = yn by first | assumption | rfl, show p2.size = p2n by first | assumption | rfl]; omega); have fby2 : yn + p2n ≤ 9223372036854775807 := (by omega); have fcy2 : (9223372036854775807 < yn + p2n) = False := eq_false (by omega); obtain ⟨y2, hy2⟩ : ∃ x, x = y ++ p2 := ⟨_, rfl⟩; obtain ⟨y2n, hy2n⟩ : ∃ x : Nat, x = yn + p2n := ⟨_, rfl⟩; have szy2 : y2.size = y2n := (by rw [hy2, ByteArray.size_append, show y.size = yn by first | assumption | rfl, show p2.size = p2n by first | assumption | rfl, hy2n]); have bdy2 : y2n ≤ 1000600 := (by omega); have Vy2 := Lib.hid hy2; replace hy2 := hy2.symm; clear hy2n; have fay3 : y2.size + (⟨#[69, 43]⟩ : ByteArray).size ≤ 9223372036854775807 := (by rw [show y2.size = y2n by first | assumption | rfl, show (⟨#[69, 43]⟩ : ByteArray).size = 2 by first | assumption | rfl]; omega); have fby3 : y2n + 2 ≤ 9223372036854775807 := (by omega); have fcy3 : (9223372036854775807 < y2n + 2) = False := eq_false (by omega); obtain ⟨y3, hy3⟩ : ∃ x, x = y2 ++ (⟨#[69, 43]⟩ : ByteArray) := ⟨_, rfl⟩; obtain ⟨y3n, hy3n⟩ : ∃ x : Nat, x = y2n + 2 := ⟨_, rfl⟩; have szy3 : y3.size = y3n := (by rw [hy3, ByteArray.size_append, show y2.size = y2n by first | assumption | rfl, show (⟨#[69, 43]⟩ : ByteArray).size = 2 by first | assumption | rfl, hy3n]); have bdy3 : y3n ≤ 1000610 := (by omega); have Vy3 := Lib.hid hy3; replace hy3 := hy3.symm; clear hy3n; have HG10 := Lib.hid (heap_keeps b10 HG9.out); have HB10 := Lib.hid (below_step HB9.out b10); have Q10 := Lib.hid q10; have K10 := Lib.hid hk10; clear q10 hk10 b10; obtain ⟨d105, d107, d108, d109, d1010, d1013, d1014, d1015, d1016⟩ := HCELLS.out _ _ HG10.out)
        | (go_at_call 30; (with_reducible refine (HCOM.out _ (N.moreP p m) _ HX.out (by have h_ := congrArg ByteArray.size HX.out; rw [mkB_size] at h_; omega) (N.more_long HG.out m)).mono ?_); rintro e W9 ⟨y, yn, rfl, q9, s9, bd9, b9⟩; have hyn : yn ≤ 1000300 := (by have h_ := congrArg ByteArray.size HX.out; rw [mkB_size] at h_; omega); have HG9 := Lib.hid (heap_keeps b9 HG7.out); have HB9 := Lib.hid (below_step HB7.out b9); have Q9 := Lib.hid q9; clear q9 b9 bd9; obtain ⟨d95, d97, d98, d99, d910, d913, d914, d915, d916⟩ := HCELLS.out _ _ HG9.out)
        | ((with_reducible refine gate_dst (N := 59) rfl ?_); refine wpList_load_mid rfl 25 (.tmp 2) rfl w.heap.size 0 rfl cs.toList _ (row_range (HG7.out)) Tryd.underlying25 rfl (by rw [Array.length_toList, HSZ.out]; kernel_rfl) ?_)
        | (go_at_call 28; (with_reducible refine (HREP.out 35 _ _ (by omega)).mono ?_); rintro e W7 ⟨z7, k7, rfl, q7, s7, hk7, b7⟩; have hk7b : k7 ≤ 81 := (by omega); have fav : z7.size + u.size ≤ 9223372036854775807 := (by rw [show z7.size = k7 by first | assumption | rfl, show u.size = un by first | assumption | rfl]; omega); have fbv : k7 + un ≤ 9223372036854775807 := (by omega); have fcv : (9223372036854775807 < k7 + un) = False := eq_false (by omega); obtain ⟨v, hv⟩ : ∃ x, x = z7 ++ u := ⟨_, rfl⟩; obtain ⟨vn, hvn⟩ : ∃ x : Nat, x = k7 + un := ⟨_, rfl⟩; have szv : v.size = vn := (by rw [hv, ByteArray.size_append, show z7.size = k7 by first | assumption | rfl, show u.size = un by first | assumption | rfl, hvn]); have bdv : vn ≤ 200 := (by omega); have Vv := Lib.hid hv; replace hv := hv.symm; clear hvn; have HV : Hid (v = mkB (N.padP p)) := Lib.hid (by rw [Vv.out, q7, HU.out, mkB_app, ← szu, HU.out, mkB_size, HE.out.2.2.2.2.2.2.1]; rfl); have HX : Hid (v = mkB (N.moreP p m)) := Lib.hid (by rw [HV.out]; unfold N.moreP; rw [if_pos HE.out.2.2.2.2.2.2.2.2.1.symm]); have HG7 := Lib.hid (heap_keeps b7 HG6.out); have HB7 := Lib.hid (below_step HB6.out b7); have Q7 := Lib.hid q7; have K7 := Lib.hid hk7; clear q7 hk7 b7; obtain ⟨d75, d77, d78, d79, d710, d713, d714, d715, d716⟩ := HCELLS.out _ _ HG7.out)
      )
      go_ret
      refine ⟨?_, HB11.out⟩
      have HR := HE.out.2.2.2.2.2.2.2.2.2.2
      have e3 := HE.out.2.2.1
      have e2 := HE.out.2.1
      have e6 := HE.out.2.2.2.2.2.1
      have e9 := HE.out.2.2.2.2.2.2.2.2.1
      have e10 := HE.out.2.2.2.2.2.2.2.2.2.1
      have hfr : N.fracP p = 46 :: ((N.digitsN p).drop p.minInt ++ N.rp 35 ((p.maxFrac : Int) - p.minFrac)) := by
        unfold N.fracP
        exact if_pos (by omega)
      have hex : N.expP p = 69 :: ([43] ++ N.rp 48 p.minExp) := by
        unfold N.expP
        rw [← e9, ← e10]
        rfl
      rw [HR]
      unfold N.printN
      rw [hfr, hex]
      rw [Vy4.out, Vy3.out, Vy2.out, Q9.out, Vp2.out, Vp1.out, HDF.out, Q10.out, e3, e2, show (⟨#[46]⟩ : ByteArray) = mkB [46] from rfl, Q11.out, e6, show (⟨#[69, 43]⟩ : ByteArray) = mkB [69, 43] from rfl]
      simp only [mkB_app]
      simp
    · -- sci True, maxFrac True, plus False
      subst hsc
      subst hpl
      go_wp2_with (first
        | ((with_reducible refine gate_dst (N := 43) rfl ?_); refine wpList_load_mid rfl 25 (.tmp 2) rfl w.heap.size 0 rfl cs.toList _ (row_range (HG5.out)) Tryd.underlying25 rfl (by rw [Array.length_toList, HSZ.out]; kernel_rfl) ?_)
        | (go_at_call 29; (with_reducible refine (HLEAST.out _).mono ?_); rintro e W6 ⟨rfl, b6⟩; have HG6 := Lib.hid (heap_keeps b6 HG5.out); have HB6 := Lib.hid (below_step HB5.out b6); clear b6)
        | (go_at_call 28; (with_reducible refine (HREP.out 48 _ _ (by omega)).mono ?_); rintro e W11 ⟨z11, k11, rfl, q11, s11, hk11, b11⟩; have hk11b : k11 ≤ 9 := (by omega); have fay4 : y3.size + z11.size ≤ 9223372036854775807 := (by rw [show y3.size = y3n by first | assumption | rfl, show z11.size = k11 by first | assumption | rfl]; omega); have fby4 : y3n + k11 ≤ 9223372036854775807 := (by omega); have fcy4 : (9223372036854775807 < y3n + k11) = False := eq_false (by omega); obtain ⟨y4, hy4⟩ : ∃ x, x = y3 ++ z11 := ⟨_, rfl⟩; obtain ⟨y4n, hy4n⟩ : ∃ x : Nat, x = y3n + k11 := ⟨_, rfl⟩; have szy4 : y4.size = y4n := (by rw [hy4, ByteArray.size_append, show y3.size = y3n by first | assumption | rfl, show z11.size = k11 by first | assumption | rfl, hy4n]); have bdy4 : y4n ≤ 1000700 := (by omega); have Vy4 := Lib.hid hy4; replace hy4 := hy4.symm; clear hy4n; have HG11 := Lib.hid (heap_keeps b11 HG10.out); have HB11 := Lib.hid (below_step HB10.out b11); have Q11 := Lib.hid q11; have K11 := Lib.hid hk11; clear q11 hk11 b11; obtain ⟨d115, d117, d118, d119, d1110, d1113, d1114, d1115, d1116⟩ := HCELLS.out _ _ HG11.out)
        | (go_at_call 28; (with_reducible refine (HREP.out 35 _ _ (by omega)).mono ?_); rintro e W10 ⟨z10, k10, rfl, q10, s10, hk10, b10⟩; have hk10b : k10 ≤ 40 := (by omega); have fap2 : p1.size + z10.size ≤ 9223372036854775807 := (by rw [show p1.size = p1n by first | assumption | rfl, show z10.size = k10 by first | assumption | rfl]; omega); have fbp2 : p1n + k10 ≤ 9223372036854775807 := (by omega); have fcp2 : (9223372036854775807 < p1n + k10) = False := eq_false (by omega); obtain ⟨p2, hp2⟩ : ∃ x, x = p1 ++ z10 := ⟨_, rfl⟩; obtain ⟨p2n, hp2n⟩ : ∃ x : Nat, x = p1n + k10 := ⟨_, rfl⟩; have szp2 : p2.size = p2n := (by rw [hp2, ByteArray.size_append, show p1.size = p1n by first | assumption | rfl, show z10.size = k10 by first | assumption | rfl, hp2n]); have bdp2 : p2n ≤ 200 := (by omega); have Vp2 := Lib.hid hp2; replace hp2 := hp2.symm; clear hp2n; have fay2 : y.size + p2.size ≤ 9223372036854775807 := (by rw [show y.size = yn by first | assumption | rfl, show p2.size = p2n by first | assumption | rfl]; omega); have fby2 : yn + p2n ≤ 9223372036854775807 := (by omega); have fcy2 : (9223372036854775807 < yn + p2n) = False := eq_false (by omega); obtain ⟨y2, hy2⟩ : ∃ x, x = y ++ p2 := ⟨_, rfl⟩; obtain ⟨y2n, hy2n⟩ : ∃ x : Nat, x = yn + p2n := ⟨_, rfl⟩; have szy2 : y2.size = y2n := (by rw [hy2, ByteArray.size_append, show y.size = yn by first | assumption | rfl, show p2.size = p2n by first | assumption | rfl, hy2n]); have bdy2 : y2n ≤ 1000600 := (by omega); have Vy2 := Lib.hid hy2; replace hy2 := hy2.symm; clear hy2n; have fay3 : y2.size + (⟨#[69]⟩ : ByteArray).size ≤ 9223372036854775807 := (by rw [show y2.size = y2n by first | assumption | rfl, show (⟨#[69]⟩ : ByteArray).size = 1 by first | assumption | rfl]; omega); have fby3 : y2n + 1 ≤ 9223372036854775807 := (by omega); have fcy3 : (9223372036854775807 < y2n + 1) = False := eq_false (by omega); obtain ⟨y3, hy3⟩ : ∃ x, x = y2 ++ (⟨#[69]⟩ : ByteArray) := ⟨_, rfl⟩; obtain ⟨y3n, hy3n⟩ : ∃ x : Nat, x = y2n + 1 := ⟨_, rfl⟩; have szy3 : y3.size = y3n := (by rw [hy3, ByteArray.size_append, show y2.size = y2n by first | assumption | rfl, show (⟨#[69]⟩ : ByteArray).size = 1 by first | assumption | rfl, hy3n]); have bdy3 : y3n ≤ 1000610 := (by omega); have Vy3 := Lib.hid hy3; replace hy3 := hy3.symm; clear hy3n; have HG10 := Lib.hid (heap_keeps b10 HG9.out); have HB10 := Lib.hid (below_step HB9.out b10); have Q10 := Lib.hid q10; have K10 := Lib.hid hk10; clear q10 hk10 b10; obtain ⟨d105, d107, d108, d109, d1010, d1013, d1014, d1015, d1016⟩ := HCELLS.out _ _ HG10.out)
        | (go_at_call 30; (with_reducible refine (HCOM.out _ (N.moreP p m) _ HX.out (by have h_ := congrArg ByteArray.size HX.out; rw [mkB_size] at h_; omega) (N.more_long HG.out m)).mono ?_); rintro e W9 ⟨y, yn, rfl, q9, s9, bd9, b9⟩; have hyn : yn ≤ 1000300 := (by have h_ := congrArg ByteArray.size HX.out; rw [mkB_size] at h_; omega); have HG9 := Lib.hid (heap_keeps b9 HG7.out); have HB9 := Lib.hid (below_step HB7.out b9); have Q9 := Lib.hid q9; clear q9 b9 bd9; obtain ⟨d95, d97, d98, d99, d910, d913, d914, d915, d916⟩ := HCELLS.out _ _ HG9.out)
        | ((with_reducible refine gate_dst (N := 59) rfl ?_); refine wpList_load_mid rfl 25 (.tmp 2) rfl w.heap.size 0 rfl cs.toList _ (row_range (HG7.out)) Tryd.underlying25 rfl (by rw [Array.length_toList, HSZ.out]; kernel_rfl) ?_)
        | (go_at_call 28; (with_reducible refine (HREP.out 35 _ _ (by omega)).mono ?_); rintro e W7 ⟨z7, k7, rfl, q7, s7, hk7, b7⟩; have hk7b : k7 ≤ 81 := (by omega); have fav : z7.size + u.size ≤ 9223372036854775807 := (by rw [show z7.size = k7 by first | assumption | rfl, show u.size = un by first | assumption | rfl]; omega); have fbv : k7 + un ≤ 9223372036854775807 := (by omega); have fcv : (9223372036854775807 < k7 + un) = False := eq_false (by omega); obtain ⟨v, hv⟩ : ∃ x, x = z7 ++ u := ⟨_, rfl⟩; obtain ⟨vn, hvn⟩ : ∃ x : Nat, x = k7 + un := ⟨_, rfl⟩; have szv : v.size = vn := (by rw [hv, ByteArray.size_append, show z7.size = k7 by first | assumption | rfl, show u.size = un by first | assumption | rfl, hvn]); have bdv : vn ≤ 200 := (by omega); have Vv := Lib.hid hv; replace hv := hv.symm; clear hvn; have HV : Hid (v = mkB (N.padP p)) := Lib.hid (by rw [Vv.out, q7, HU.out, mkB_app, ← szu, HU.out, mkB_size, HE.out.2.2.2.2.2.2.1]; rfl); have HX : Hid (v = mkB (N.moreP p m)) := Lib.hid (by rw [HV.out]; unfold N.moreP; rw [if_pos HE.out.2.2.2.2.2.2.2.2.1.symm]); have HG7 := Lib.hid (heap_keeps b7 HG6.out); have HB7 := Lib.hid (below_step HB6.out b7); have Q7 := Lib.hid q7; have K7 := Lib.hid hk7; clear q7 hk7 b7; obtain ⟨d75, d77, d78, d79, d710, d713, d714, d715, d716⟩ := HCELLS.out _ _ HG7.out)
      )
      go_ret
      refine ⟨?_, HB11.out⟩
      have HR := HE.out.2.2.2.2.2.2.2.2.2.2
      have e3 := HE.out.2.2.1
      have e2 := HE.out.2.1
      have e6 := HE.out.2.2.2.2.2.1
      have e9 := HE.out.2.2.2.2.2.2.2.2.1
      have e10 := HE.out.2.2.2.2.2.2.2.2.2.1
      have hfr : N.fracP p = 46 :: ((N.digitsN p).drop p.minInt ++ N.rp 35 ((p.maxFrac : Int) - p.minFrac)) := by
        unfold N.fracP
        exact if_pos (by omega)
      have hex : N.expP p = 69 :: ([] ++ N.rp 48 p.minExp) := by
        unfold N.expP
        rw [← e9, ← e10]
        rfl
      rw [HR]
      unfold N.printN
      rw [hfr, hex]
      rw [Vy4.out, Vy3.out, Vy2.out, Q9.out, Vp2.out, Vp1.out, HDF.out, Q10.out, e3, e2, show (⟨#[46]⟩ : ByteArray) = mkB [46] from rfl, Q11.out, e6, show (⟨#[69]⟩ : ByteArray) = mkB [69] from rfl]
      simp only [mkB_app]
      simp
    · -- sci True, maxFrac False, plus True
      subst hsc
      subst hpl
      go_wp2_with (first
        | ((with_reducible refine gate_dst (N := 43) rfl ?_); refine wpList_load_mid rfl 25 (.tmp 2) rfl w.heap.size 0 rfl cs.toList _ (row_range (HG5.out)) Tryd.underlying25 rfl (by rw [Array.length_toList, HSZ.out]; kernel_rfl) ?_)
        | (go_at_call 29; (with_reducible refine (HLEAST.out _).mono ?_); rintro e W6 ⟨rfl, b6⟩; have HG6 := Lib.hid (heap_keeps b6 HG5.out); have HB6 := Lib.hid (below_step HB5.out b6); clear b6)
        | (go_at_call 28; (with_reducible refine (HREP.out 48 _ _ (by omega)).mono ?_); rintro e W11 ⟨z11, k11, rfl, q11, s11, hk11, b11⟩; have hk11b : k11 ≤ 9 := (by omega); have fay4 : y3.size + z11.size ≤ 9223372036854775807 := (by rw [show y3.size = y3n by first | assumption | rfl, show z11.size = k11 by first | assumption | rfl]; omega); have fby4 : y3n + k11 ≤ 9223372036854775807 := (by omega); have fcy4 : (9223372036854775807 < y3n + k11) = False := eq_false (by omega); obtain ⟨y4, hy4⟩ : ∃ x, x = y3 ++ z11 := ⟨_, rfl⟩; obtain ⟨y4n, hy4n⟩ : ∃ x : Nat, x = y3n + k11 := ⟨_, rfl⟩; have szy4 : y4.size = y4n := (by rw [hy4, ByteArray.size_append, show y3.size = y3n by first | assumption | rfl, show z11.size = k11 by first | assumption | rfl, hy4n]); have bdy4 : y4n ≤ 1000700 := (by omega); have Vy4 := Lib.hid hy4; replace hy4 := hy4.symm; clear hy4n; have HG11 := Lib.hid (heap_keeps b11 HG9.out); have HB11 := Lib.hid (below_step HB9.out b11); have Q11 := Lib.hid q11; have K11 := Lib.hid hk11; clear q11 hk11 b11; obtain ⟨d115, d117, d118, d119, d1110, d1113, d1114, d1115, d1116⟩ := HCELLS.out _ _ HG11.out)
        | (go_at_call 30; (with_reducible refine (HCOM.out _ (N.moreP p m) _ HX.out (by have h_ := congrArg ByteArray.size HX.out; rw [mkB_size] at h_; omega) (N.more_long HG.out m)).mono ?_); rintro e W9 ⟨y, yn, rfl, q9, s9, bd9, b9⟩; have hyn : yn ≤ 1000300 := (by have h_ := congrArg ByteArray.size HX.out; rw [mkB_size] at h_; omega); have HG9 := Lib.hid (heap_keeps b9 HG7.out); have HB9 := Lib.hid (below_step HB7.out b9); have Q9 := Lib.hid q9; clear q9 b9 bd9; obtain ⟨d95, d97, d98, d99, d910, d913, d914, d915, d916⟩ := HCELLS.out _ _ HG9.out; have fay3 : y.size + (⟨#[69, 43]⟩ : ByteArray).size ≤ 9223372036854775807 := (by rw [show y.size = yn by first | assumption | rfl, show (⟨#[69, 43]⟩ : ByteArray).size = 2 by first | assumption | rfl]; omega); have fby3 : yn + 2 ≤ 9223372036854775807 := (by omega); have fcy3 : (9223372036854775807 < yn + 2) = False := eq_false (by omega); obtain ⟨y3, hy3⟩ : ∃ x, x = y ++ (⟨#[69, 43]⟩ : ByteArray) := ⟨_, rfl⟩; obtain ⟨y3n, hy3n⟩ : ∃ x : Nat, x = yn + 2 := ⟨_, rfl⟩; have szy3 : y3.size = y3n := (by rw [hy3, ByteArray.size_append, show y.size = yn by first | assumption | rfl, show (⟨#[69, 43]⟩ : ByteArray).size = 2 by first | assumption | rfl, hy3n]); have bdy3 : y3n ≤ 1000310 := (by omega); have Vy3 := Lib.hid hy3; replace hy3 := hy3.symm; clear hy3n)
        | ((with_reducible refine gate_dst (N := 59) rfl ?_); refine wpList_load_mid rfl 25 (.tmp 2) rfl w.heap.size 0 rfl cs.toList _ (row_range (HG7.out)) Tryd.underlying25 rfl (by rw [Array.length_toList, HSZ.out]; kernel_rfl) ?_)
        | (go_at_call 28; (with_reducible refine (HREP.out 35 _ _ (by omega)).mono ?_); rintro e W7 ⟨z7, k7, rfl, q7, s7, hk7, b7⟩; have hk7b : k7 ≤ 81 := (by omega); have fav : z7.size + u.size ≤ 9223372036854775807 := (by rw [show z7.size = k7 by first | assumption | rfl, show u.size = un by first | assumption | rfl]; omega); have fbv : k7 + un ≤ 9223372036854775807 := (by omega); have fcv : (9223372036854775807 < k7 + un) = False := eq_false (by omega); obtain ⟨v, hv⟩ : ∃ x, x = z7 ++ u := ⟨_, rfl⟩; obtain ⟨vn, hvn⟩ : ∃ x : Nat, x = k7 + un := ⟨_, rfl⟩; have szv : v.size = vn := (by rw [hv, ByteArray.size_append, show z7.size = k7 by first | assumption | rfl, show u.size = un by first | assumption | rfl, hvn]); have bdv : vn ≤ 200 := (by omega); have Vv := Lib.hid hv; replace hv := hv.symm; clear hvn; have HV : Hid (v = mkB (N.padP p)) := Lib.hid (by rw [Vv.out, q7, HU.out, mkB_app, ← szu, HU.out, mkB_size, HE.out.2.2.2.2.2.2.1]; rfl); have HX : Hid (v = mkB (N.moreP p m)) := Lib.hid (by rw [HV.out]; unfold N.moreP; rw [if_pos HE.out.2.2.2.2.2.2.2.2.1.symm]); have HG7 := Lib.hid (heap_keeps b7 HG6.out); have HB7 := Lib.hid (below_step HB6.out b7); have Q7 := Lib.hid q7; have K7 := Lib.hid hk7; clear q7 hk7 b7; obtain ⟨d75, d77, d78, d79, d710, d713, d714, d715, d716⟩ := HCELLS.out _ _ HG7.out)
      )
      go_ret
      refine ⟨?_, HB11.out⟩
      have HR := HE.out.2.2.2.2.2.2.2.2.2.2
      have e3 := HE.out.2.2.1
      have e2 := HE.out.2.1
      have e6 := HE.out.2.2.2.2.2.1
      have e9 := HE.out.2.2.2.2.2.2.2.2.1
      have e10 := HE.out.2.2.2.2.2.2.2.2.2.1
      have hfr : N.fracP p = [] := by
        unfold N.fracP
        exact if_neg (by omega)
      have hex : N.expP p = 69 :: ([43] ++ N.rp 48 p.minExp) := by
        unfold N.expP
        rw [← e9, ← e10]
        rfl
      rw [HR]
      unfold N.printN
      rw [hfr, hex]
      rw [Vy4.out, Vy3.out, Q9.out, Q11.out, e6, show (⟨#[69, 43]⟩ : ByteArray) = mkB [69, 43] from rfl]
      simp only [mkB_app]
      simp
    · -- sci True, maxFrac False, plus False
      subst hsc
      subst hpl
      go_wp2_with (first
        | ((with_reducible refine gate_dst (N := 43) rfl ?_); refine wpList_load_mid rfl 25 (.tmp 2) rfl w.heap.size 0 rfl cs.toList _ (row_range (HG5.out)) Tryd.underlying25 rfl (by rw [Array.length_toList, HSZ.out]; kernel_rfl) ?_)
        | (go_at_call 29; (with_reducible refine (HLEAST.out _).mono ?_); rintro e W6 ⟨rfl, b6⟩; have HG6 := Lib.hid (heap_keeps b6 HG5.out); have HB6 := Lib.hid (below_step HB5.out b6); clear b6)
        | (go_at_call 28; (with_reducible refine (HREP.out 48 _ _ (by omega)).mono ?_); rintro e W11 ⟨z11, k11, rfl, q11, s11, hk11, b11⟩; have hk11b : k11 ≤ 9 := (by omega); have fay4 : y3.size + z11.size ≤ 9223372036854775807 := (by rw [show y3.size = y3n by first | assumption | rfl, show z11.size = k11 by first | assumption | rfl]; omega); have fby4 : y3n + k11 ≤ 9223372036854775807 := (by omega); have fcy4 : (9223372036854775807 < y3n + k11) = False := eq_false (by omega); obtain ⟨y4, hy4⟩ : ∃ x, x = y3 ++ z11 := ⟨_, rfl⟩; obtain ⟨y4n, hy4n⟩ : ∃ x : Nat, x = y3n + k11 := ⟨_, rfl⟩; have szy4 : y4.size = y4n := (by rw [hy4, ByteArray.size_append, show y3.size = y3n by first | assumption | rfl, show z11.size = k11 by first | assumption | rfl, hy4n]); have bdy4 : y4n ≤ 1000700 := (by omega); have Vy4 := Lib.hid hy4; replace hy4 := hy4.symm; clear hy4n; have HG11 := Lib.hid (heap_keeps b11 HG9.out); have HB11 := Lib.hid (below_step HB9.out b11); have Q11 := Lib.hid q11; have K11 := Lib.hid hk11; clear q11 hk11 b11; obtain ⟨d115, d117, d118, d119, d1110, d1113, d1114, d1115, d1116⟩ := HCELLS.out _ _ HG11.out)
        | (go_at_call 30; (with_reducible refine (HCOM.out _ (N.moreP p m) _ HX.out (by have h_ := congrArg ByteArray.size HX.out; rw [mkB_size] at h_; omega) (N.more_long HG.out m)).mono ?_); rintro e W9 ⟨y, yn, rfl, q9, s9, bd9, b9⟩; have hyn : yn ≤ 1000300 := (by have h_ := congrArg ByteArray.size HX.out; rw [mkB_size] at h_; omega); have HG9 := Lib.hid (heap_keeps b9 HG7.out); have HB9 := Lib.hid (below_step HB7.out b9); have Q9 := Lib.hid q9; clear q9 b9 bd9; obtain ⟨d95, d97, d98, d99, d910, d913, d914, d915, d916⟩ := HCELLS.out _ _ HG9.out; have fay3 : y.size + (⟨#[69]⟩ : ByteArray).size ≤ 9223372036854775807 := (by rw [show y.size = yn by first | assumption | rfl, show (⟨#[69]⟩ : ByteArray).size = 1 by first | assumption | rfl]; omega); have fby3 : yn + 1 ≤ 9223372036854775807 := (by omega); have fcy3 : (9223372036854775807 < yn + 1) = False := eq_false (by omega); obtain ⟨y3, hy3⟩ : ∃ x, x = y ++ (⟨#[69]⟩ : ByteArray) := ⟨_, rfl⟩; obtain ⟨y3n, hy3n⟩ : ∃ x : Nat, x = yn + 1 := ⟨_, rfl⟩; have szy3 : y3.size = y3n := (by rw [hy3, ByteArray.size_append, show y.size = yn by first | assumption | rfl, show (⟨#[69]⟩ : ByteArray).size = 1 by first | assumption | rfl, hy3n]); have bdy3 : y3n ≤ 1000310 := (by omega); have Vy3 := Lib.hid hy3; replace hy3 := hy3.symm; clear hy3n)
        | ((with_reducible refine gate_dst (N := 59) rfl ?_); refine wpList_load_mid rfl 25 (.tmp 2) rfl w.heap.size 0 rfl cs.toList _ (row_range (HG7.out)) Tryd.underlying25 rfl (by rw [Array.length_toList, HSZ.out]; kernel_rfl) ?_)
        | (go_at_call 28; (with_reducible refine (HREP.out 35 _ _ (by omega)).mono ?_); rintro e W7 ⟨z7, k7, rfl, q7, s7, hk7, b7⟩; have hk7b : k7 ≤ 81 := (by omega); have fav : z7.size + u.size ≤ 9223372036854775807 := (by rw [show z7.size = k7 by first | assumption | rfl, show u.size = un by first | assumption | rfl]; omega); have fbv : k7 + un ≤ 9223372036854775807 := (by omega); have fcv : (9223372036854775807 < k7 + un) = False := eq_false (by omega); obtain ⟨v, hv⟩ : ∃ x, x = z7 ++ u := ⟨_, rfl⟩; obtain ⟨vn, hvn⟩ : ∃ x : Nat, x = k7 + un := ⟨_, rfl⟩; have szv : v.size = vn := (by rw [hv, ByteArray.size_append, show z7.size = k7 by first | assumption | rfl, show u.size = un by first | assumption | rfl, hvn]); have bdv : vn ≤ 200 := (by omega); have Vv := Lib.hid hv; replace hv := hv.symm; clear hvn; have HV : Hid (v = mkB (N.padP p)) := Lib.hid (by rw [Vv.out, q7, HU.out, mkB_app, ← szu, HU.out, mkB_size, HE.out.2.2.2.2.2.2.1]; rfl); have HX : Hid (v = mkB (N.moreP p m)) := Lib.hid (by rw [HV.out]; unfold N.moreP; rw [if_pos HE.out.2.2.2.2.2.2.2.2.1.symm]); have HG7 := Lib.hid (heap_keeps b7 HG6.out); have HB7 := Lib.hid (below_step HB6.out b7); have Q7 := Lib.hid q7; have K7 := Lib.hid hk7; clear q7 hk7 b7; obtain ⟨d75, d77, d78, d79, d710, d713, d714, d715, d716⟩ := HCELLS.out _ _ HG7.out)
      )
      go_ret
      refine ⟨?_, HB11.out⟩
      have HR := HE.out.2.2.2.2.2.2.2.2.2.2
      have e3 := HE.out.2.2.1
      have e2 := HE.out.2.1
      have e6 := HE.out.2.2.2.2.2.1
      have e9 := HE.out.2.2.2.2.2.2.2.2.1
      have e10 := HE.out.2.2.2.2.2.2.2.2.2.1
      have hfr : N.fracP p = [] := by
        unfold N.fracP
        exact if_neg (by omega)
      have hex : N.expP p = 69 :: ([] ++ N.rp 48 p.minExp) := by
        unfold N.expP
        rw [← e9, ← e10]
        rfl
      rw [HR]
      unfold N.printN
      rw [hfr, hex]
      rw [Vy4.out, Vy3.out, Q9.out, Q11.out, e6, show (⟨#[69]⟩ : ByteArray) = mkB [69] from rfl]
      simp only [mkB_app]
      simp
  · skip
    have HU : Hid (dw = mkB (N.wholeP p)) := Lib.hid (by rw [HDW.out]; unfold N.wholeP; rw [if_neg (by have := HE.out.2.2.2.1; omega)])
    have hdw2 := hdw
    clear hdw2
    obtain ⟨u, hu⟩ : ∃ u, u = dw := ⟨_, rfl⟩
    rw [← hu] at HU sdw hdw
    clear hu HDW
    obtain ⟨un, hun⟩ : ∃ n : Nat, n = mi := ⟨_, rfl⟩
    have szu : u.size = un := by rw [hun]; exact sdw
    have bdu : un ≤ 80 := by omega
    clear hun sdw
    go_wp2
    go_region
    have hc7 := hwz (le - (un : Int)) (by omega) (by omega)
    have HG5 := Lib.hid (blk_drew HG1.out)
    have HB5 := Lib.hid (HB1.out).drew
    have hways : (sci = false ∧ 0 < xf) ∨ (sci = false ∧ ¬ 0 < xf) ∨ (pl = true ∧ sci = true ∧ 0 < xf) ∨ (pl = false ∧ sci = true ∧ 0 < xf) ∨ (pl = true ∧ sci = true ∧ ¬ 0 < xf) ∨ (pl = false ∧ sci = true ∧ ¬ 0 < xf) := by
      by_cases h : 0 < xf <;> cases sci <;> cases pl <;> simp [h]
    rcases hways with ⟨hsc, hxf⟩ | ⟨hsc, hxf⟩ | ⟨hpl, hsc, hxf⟩ | ⟨hpl, hsc, hxf⟩ | ⟨hpl, hsc, hxf⟩ | ⟨hpl, hsc, hxf⟩
    · -- sci False, maxFrac True, plus None
      subst hsc
      go_wp2_with (first
        | ((with_reducible refine gate_dst (N := 43) rfl ?_); refine wpList_load_mid rfl 25 (.tmp 2) rfl w.heap.size 0 rfl cs.toList _ (row_range (HG5.out)) Tryd.underlying25 rfl (by rw [Array.length_toList, HSZ.out]; kernel_rfl) ?_)
        | (go_at_call 29; (with_reducible refine (HLEAST.out _).mono ?_); rintro e W6 ⟨rfl, b6⟩; have HG6 := Lib.hid (heap_keeps b6 HG5.out); have HB6 := Lib.hid (below_step HB5.out b6); clear b6)
        | (go_at_call 28; (with_reducible refine (HREP.out 35 _ _ (by omega)).mono ?_); rintro e W10 ⟨z10, k10, rfl, q10, s10, hk10, b10⟩; have hk10b : k10 ≤ 40 := (by omega); have fap2 : p1.size + z10.size ≤ 9223372036854775807 := (by rw [show p1.size = p1n by first | assumption | rfl, show z10.size = k10 by first | assumption | rfl]; omega); have fbp2 : p1n + k10 ≤ 9223372036854775807 := (by omega); have fcp2 : (9223372036854775807 < p1n + k10) = False := eq_false (by omega); obtain ⟨p2, hp2⟩ : ∃ x, x = p1 ++ z10 := ⟨_, rfl⟩; obtain ⟨p2n, hp2n⟩ : ∃ x : Nat, x = p1n + k10 := ⟨_, rfl⟩; have szp2 : p2.size = p2n := (by rw [hp2, ByteArray.size_append, show p1.size = p1n by first | assumption | rfl, show z10.size = k10 by first | assumption | rfl, hp2n]); have bdp2 : p2n ≤ 200 := (by omega); have Vp2 := Lib.hid hp2; replace hp2 := hp2.symm; clear hp2n; have fay2 : y.size + p2.size ≤ 9223372036854775807 := (by rw [show y.size = yn by first | assumption | rfl, show p2.size = p2n by first | assumption | rfl]; omega); have fby2 : yn + p2n ≤ 9223372036854775807 := (by omega); have fcy2 : (9223372036854775807 < yn + p2n) = False := eq_false (by omega); obtain ⟨y2, hy2⟩ : ∃ x, x = y ++ p2 := ⟨_, rfl⟩; obtain ⟨y2n, hy2n⟩ : ∃ x : Nat, x = yn + p2n := ⟨_, rfl⟩; have szy2 : y2.size = y2n := (by rw [hy2, ByteArray.size_append, show y.size = yn by first | assumption | rfl, show p2.size = p2n by first | assumption | rfl, hy2n]); have bdy2 : y2n ≤ 1000600 := (by omega); have Vy2 := Lib.hid hy2; replace hy2 := hy2.symm; clear hy2n; have HG10 := Lib.hid (heap_keeps b10 HG9.out); have HB10 := Lib.hid (below_step HB9.out b10); have Q10 := Lib.hid q10; have K10 := Lib.hid hk10; clear q10 hk10 b10; obtain ⟨d105, d107, d108, d109, d1010, d1013, d1014, d1015, d1016⟩ := HCELLS.out _ _ HG10.out)
        | (go_at_call 30; (with_reducible refine (HCOM.out _ (N.moreP p m) _ HX.out (by have h_ := congrArg ByteArray.size HX.out; rw [mkB_size] at h_; omega) (N.more_long HG.out m)).mono ?_); rintro e W9 ⟨y, yn, rfl, q9, s9, bd9, b9⟩; have hyn : yn ≤ 1000300 := (by have h_ := congrArg ByteArray.size HX.out; rw [mkB_size] at h_; omega); have HG9 := Lib.hid (heap_keeps b9 HG8.out); have HB9 := Lib.hid (below_step HB8.out b9); have Q9 := Lib.hid q9; clear q9 b9 bd9; obtain ⟨d95, d97, d98, d99, d910, d913, d914, d915, d916⟩ := HCELLS.out _ _ HG9.out)
        | ((with_reducible refine gate_dst (N := 59) rfl ?_); refine wpList_load_mid rfl 25 (.tmp 2) rfl w.heap.size 0 rfl cs.toList _ (row_range (HG8.out)) Tryd.underlying25 rfl (by rw [Array.length_toList, HSZ.out]; kernel_rfl) ?_)
        | (go_at_call 28; (with_reducible refine (HREP.out 35 _ _ (by omega)).mono ?_); rintro e W8 ⟨z8, k8, rfl, q8, s8, hk8, b8⟩; have hk8b : k8 ≤ 1000000 := (by omega); have fax : z8.size + v.size ≤ 9223372036854775807 := (by rw [show z8.size = k8 by first | assumption | rfl, show v.size = vn by first | assumption | rfl]; omega); have fbx : k8 + vn ≤ 9223372036854775807 := (by omega); have fcx : (9223372036854775807 < k8 + vn) = False := eq_false (by omega); obtain ⟨x, hx⟩ : ∃ x, x = z8 ++ v := ⟨_, rfl⟩; obtain ⟨xn, hxn⟩ : ∃ x : Nat, x = k8 + vn := ⟨_, rfl⟩; have szx : x.size = xn := (by rw [hx, ByteArray.size_append, show z8.size = k8 by first | assumption | rfl, show v.size = vn by first | assumption | rfl, hxn]); have bdx : xn ≤ 1000200 := (by omega); have Vx := Lib.hid hx; replace hx := hx.symm; clear hxn; have HX : Hid (x = mkB (N.moreP p m)) := Lib.hid (by rw [Vx.out, q8, HV.out, mkB_app]; unfold N.moreP; rw [if_neg (by rw [← HE.out.2.2.2.2.2.2.2.2.1]; simp)]); have HG8 := Lib.hid (heap_keeps b8 HG7.out); have HB8 := Lib.hid (below_step HB7.out b8); have Q8 := Lib.hid q8; have K8 := Lib.hid hk8; clear q8 hk8 b8; obtain ⟨d85, d87, d88, d89, d810, d813, d814, d815, d816⟩ := HCELLS.out _ _ HG8.out)
        | (go_at_call 28; (with_reducible refine (HREP.out 35 _ _ (by omega)).mono ?_); rintro e W7 ⟨z7, k7, rfl, q7, s7, hk7, b7⟩; have hk7b : k7 ≤ 81 := (by omega); have fav : z7.size + u.size ≤ 9223372036854775807 := (by rw [show z7.size = k7 by first | assumption | rfl, show u.size = un by first | assumption | rfl]; omega); have fbv : k7 + un ≤ 9223372036854775807 := (by omega); have fcv : (9223372036854775807 < k7 + un) = False := eq_false (by omega); obtain ⟨v, hv⟩ : ∃ x, x = z7 ++ u := ⟨_, rfl⟩; obtain ⟨vn, hvn⟩ : ∃ x : Nat, x = k7 + un := ⟨_, rfl⟩; have szv : v.size = vn := (by rw [hv, ByteArray.size_append, show z7.size = k7 by first | assumption | rfl, show u.size = un by first | assumption | rfl, hvn]); have bdv : vn ≤ 200 := (by omega); have Vv := Lib.hid hv; replace hv := hv.symm; clear hvn; have HV : Hid (v = mkB (N.padP p)) := Lib.hid (by rw [Vv.out, q7, HU.out, mkB_app, ← szu, HU.out, mkB_size, HE.out.2.2.2.2.2.2.1]; rfl); have HG7 := Lib.hid (heap_keeps b7 HG6.out); have HB7 := Lib.hid (below_step HB6.out b7); have Q7 := Lib.hid q7; have K7 := Lib.hid hk7; clear q7 hk7 b7; obtain ⟨d75, d77, d78, d79, d710, d713, d714, d715, d716⟩ := HCELLS.out _ _ HG7.out)
      )
      go_ret
      refine ⟨?_, HB10.out⟩
      have HR := HE.out.2.2.2.2.2.2.2.2.2.2
      have e3 := HE.out.2.2.1
      have e2 := HE.out.2.1
      have e6 := HE.out.2.2.2.2.2.1
      have e9 := HE.out.2.2.2.2.2.2.2.2.1
      have e10 := HE.out.2.2.2.2.2.2.2.2.2.1
      have hfr : N.fracP p = 46 :: ((N.digitsN p).drop p.minInt ++ N.rp 35 ((p.maxFrac : Int) - p.minFrac)) := by
        unfold N.fracP
        exact if_pos (by omega)
      have hex : N.expP p = [] := by
        unfold N.expP
        rw [← e9]
        rfl
      rw [HR]
      unfold N.printN
      rw [hfr, hex]
      rw [Vy2.out, Q9.out, Vp2.out, Vp1.out, HDF.out, Q10.out, e3, e2, show (⟨#[46]⟩ : ByteArray) = mkB [46] from rfl]
      simp only [mkB_app]
      simp
    · -- sci False, maxFrac False, plus None
      subst hsc
      go_wp2_with (first
        | ((with_reducible refine gate_dst (N := 43) rfl ?_); refine wpList_load_mid rfl 25 (.tmp 2) rfl w.heap.size 0 rfl cs.toList _ (row_range (HG5.out)) Tryd.underlying25 rfl (by rw [Array.length_toList, HSZ.out]; kernel_rfl) ?_)
        | (go_at_call 29; (with_reducible refine (HLEAST.out _).mono ?_); rintro e W6 ⟨rfl, b6⟩; have HG6 := Lib.hid (heap_keeps b6 HG5.out); have HB6 := Lib.hid (below_step HB5.out b6); clear b6)
        | (go_at_call 30; (with_reducible refine (HCOM.out _ (N.moreP p m) _ HX.out (by have h_ := congrArg ByteArray.size HX.out; rw [mkB_size] at h_; omega) (N.more_long HG.out m)).mono ?_); rintro e W9 ⟨y, yn, rfl, q9, s9, bd9, b9⟩; have hyn : yn ≤ 1000300 := (by have h_ := congrArg ByteArray.size HX.out; rw [mkB_size] at h_; omega); have HG9 := Lib.hid (heap_keeps b9 HG8.out); have HB9 := Lib.hid (below_step HB8.out b9); have Q9 := Lib.hid q9; clear q9 b9 bd9; obtain ⟨d95, d97, d98, d99, d910, d913, d914, d915, d916⟩ := HCELLS.out _ _ HG9.out)
        | ((with_reducible refine gate_dst (N := 59) rfl ?_); refine wpList_load_mid rfl 25 (.tmp 2) rfl w.heap.size 0 rfl cs.toList _ (row_range (HG8.out)) Tryd.underlying25 rfl (by rw [Array.length_toList, HSZ.out]; kernel_rfl) ?_)
        | (go_at_call 28; (with_reducible refine (HREP.out 35 _ _ (by omega)).mono ?_); rintro e W8 ⟨z8, k8, rfl, q8, s8, hk8, b8⟩; have hk8b : k8 ≤ 1000000 := (by omega); have fax : z8.size + v.size ≤ 9223372036854775807 := (by rw [show z8.size = k8 by first | assumption | rfl, show v.size = vn by first | assumption | rfl]; omega); have fbx : k8 + vn ≤ 9223372036854775807 := (by omega); have fcx : (9223372036854775807 < k8 + vn) = False := eq_false (by omega); obtain ⟨x, hx⟩ : ∃ x, x = z8 ++ v := ⟨_, rfl⟩; obtain ⟨xn, hxn⟩ : ∃ x : Nat, x = k8 + vn := ⟨_, rfl⟩; have szx : x.size = xn := (by rw [hx, ByteArray.size_append, show z8.size = k8 by first | assumption | rfl, show v.size = vn by first | assumption | rfl, hxn]); have bdx : xn ≤ 1000200 := (by omega); have Vx := Lib.hid hx; replace hx := hx.symm; clear hxn; have HX : Hid (x = mkB (N.moreP p m)) := Lib.hid (by rw [Vx.out, q8, HV.out, mkB_app]; unfold N.moreP; rw [if_neg (by rw [← HE.out.2.2.2.2.2.2.2.2.1]; simp)]); have HG8 := Lib.hid (heap_keeps b8 HG7.out); have HB8 := Lib.hid (below_step HB7.out b8); have Q8 := Lib.hid q8; have K8 := Lib.hid hk8; clear q8 hk8 b8; obtain ⟨d85, d87, d88, d89, d810, d813, d814, d815, d816⟩ := HCELLS.out _ _ HG8.out)
        | (go_at_call 28; (with_reducible refine (HREP.out 35 _ _ (by omega)).mono ?_); rintro e W7 ⟨z7, k7, rfl, q7, s7, hk7, b7⟩; have hk7b : k7 ≤ 81 := (by omega); have fav : z7.size + u.size ≤ 9223372036854775807 := (by rw [show z7.size = k7 by first | assumption | rfl, show u.size = un by first | assumption | rfl]; omega); have fbv : k7 + un ≤ 9223372036854775807 := (by omega); have fcv : (9223372036854775807 < k7 + un) = False := eq_false (by omega); obtain ⟨v, hv⟩ : ∃ x, x = z7 ++ u := ⟨_, rfl⟩; obtain ⟨vn, hvn⟩ : ∃ x : Nat, x = k7 + un := ⟨_, rfl⟩; have szv : v.size = vn := (by rw [hv, ByteArray.size_append, show z7.size = k7 by first | assumption | rfl, show u.size = un by first | assumption | rfl, hvn]); have bdv : vn ≤ 200 := (by omega); have Vv := Lib.hid hv; replace hv := hv.symm; clear hvn; have HV : Hid (v = mkB (N.padP p)) := Lib.hid (by rw [Vv.out, q7, HU.out, mkB_app, ← szu, HU.out, mkB_size, HE.out.2.2.2.2.2.2.1]; rfl); have HG7 := Lib.hid (heap_keeps b7 HG6.out); have HB7 := Lib.hid (below_step HB6.out b7); have Q7 := Lib.hid q7; have K7 := Lib.hid hk7; clear q7 hk7 b7; obtain ⟨d75, d77, d78, d79, d710, d713, d714, d715, d716⟩ := HCELLS.out _ _ HG7.out)
      )
      go_ret
      refine ⟨?_, HB9.out⟩
      have HR := HE.out.2.2.2.2.2.2.2.2.2.2
      have e3 := HE.out.2.2.1
      have e2 := HE.out.2.1
      have e6 := HE.out.2.2.2.2.2.1
      have e9 := HE.out.2.2.2.2.2.2.2.2.1
      have e10 := HE.out.2.2.2.2.2.2.2.2.2.1
      have hfr : N.fracP p = [] := by
        unfold N.fracP
        exact if_neg (by omega)
      have hex : N.expP p = [] := by
        unfold N.expP
        rw [← e9]
        rfl
      rw [HR]
      unfold N.printN
      rw [hfr, hex]
      rw [Q9.out]
      simp only [mkB_app]
      simp
    · -- sci True, maxFrac True, plus True
      subst hsc
      subst hpl
      go_wp2_with (first
        | ((with_reducible refine gate_dst (N := 43) rfl ?_); refine wpList_load_mid rfl 25 (.tmp 2) rfl w.heap.size 0 rfl cs.toList _ (row_range (HG5.out)) Tryd.underlying25 rfl (by rw [Array.length_toList, HSZ.out]; kernel_rfl) ?_)
        | (go_at_call 29; (with_reducible refine (HLEAST.out _).mono ?_); rintro e W6 ⟨rfl, b6⟩; have HG6 := Lib.hid (heap_keeps b6 HG5.out); have HB6 := Lib.hid (below_step HB5.out b6); clear b6)
        | (go_at_call 28; (with_reducible refine (HREP.out 48 _ _ (by omega)).mono ?_); rintro e W11 ⟨z11, k11, rfl, q11, s11, hk11, b11⟩; have hk11b : k11 ≤ 9 := (by omega); have fay4 : y3.size + z11.size ≤ 9223372036854775807 := (by rw [show y3.size = y3n by first | assumption | rfl, show z11.size = k11 by first | assumption | rfl]; omega); have fby4 : y3n + k11 ≤ 9223372036854775807 := (by omega); have fcy4 : (9223372036854775807 < y3n + k11) = False := eq_false (by omega); obtain ⟨y4, hy4⟩ : ∃ x, x = y3 ++ z11 := ⟨_, rfl⟩; obtain ⟨y4n, hy4n⟩ : ∃ x : Nat, x = y3n + k11 := ⟨_, rfl⟩; have szy4 : y4.size = y4n := (by rw [hy4, ByteArray.size_append, show y3.size = y3n by first | assumption | rfl, show z11.size = k11 by first | assumption | rfl, hy4n]); have bdy4 : y4n ≤ 1000700 := (by omega); have Vy4 := Lib.hid hy4; replace hy4 := hy4.symm; clear hy4n; have HG11 := Lib.hid (heap_keeps b11 HG10.out); have HB11 := Lib.hid (below_step HB10.out b11); have Q11 := Lib.hid q11; have K11 := Lib.hid hk11; clear q11 hk11 b11; obtain ⟨d115, d117, d118, d119, d1110, d1113, d1114, d1115, d1116⟩ := HCELLS.out _ _ HG11.out)
        | (go_at_call 28; (with_reducible refine (HREP.out 35 _ _ (by omega)).mono ?_); rintro e W10 ⟨z10, k10, rfl, q10, s10, hk10, b10⟩; have hk10b : k10 ≤ 40 := (by omega); have fap2 : p1.size + z10.size ≤ 9223372036854775807 := (by rw [show p1.size = p1n by first | assumption | rfl, show z10.size = k10 by first | assumption | rfl]; omega); have fbp2 : p1n + k10 ≤ 9223372036854775807 := (by omega); have fcp2 : (9223372036854775807 < p1n + k10) = False := eq_false (by omega); obtain ⟨p2, hp2⟩ : ∃ x, x = p1 ++ z10 := ⟨_, rfl⟩; obtain ⟨p2n, hp2n⟩ : ∃ x : Nat, x = p1n + k10 := ⟨_, rfl⟩; have szp2 : p2.size = p2n := (by rw [hp2, ByteArray.size_append, show p1.size = p1n by first | assumption | rfl, show z10.size = k10 by first | assumption | rfl, hp2n]); have bdp2 : p2n ≤ 200 := (by omega); have Vp2 := Lib.hid hp2; replace hp2 := hp2.symm; clear hp2n; have fay2 : y.size + p2.size ≤ 9223372036854775807 := (by rw [show y.size = yn by first | assumption | rfl, show p2.size = p2n by first | assumption | rfl]; omega); have fby2 : yn + p2n ≤ 9223372036854775807 := (by omega); have fcy2 : (9223372036854775807 < yn + p2n) = False := eq_false (by omega); obtain ⟨y2, hy2⟩ : ∃ x, x = y ++ p2 := ⟨_, rfl⟩; obtain ⟨y2n, hy2n⟩ : ∃ x : Nat, x = yn + p2n := ⟨_, rfl⟩; have szy2 : y2.size = y2n := (by rw [hy2, ByteArray.size_append, show y.size = yn by first | assumption | rfl, show p2.size = p2n by first | assumption | rfl, hy2n]); have bdy2 : y2n ≤ 1000600 := (by omega); have Vy2 := Lib.hid hy2; replace hy2 := hy2.symm; clear hy2n; have fay3 : y2.size + (⟨#[69, 43]⟩ : ByteArray).size ≤ 9223372036854775807 := (by rw [show y2.size = y2n by first | assumption | rfl, show (⟨#[69, 43]⟩ : ByteArray).size = 2 by first | assumption | rfl]; omega); have fby3 : y2n + 2 ≤ 9223372036854775807 := (by omega); have fcy3 : (9223372036854775807 < y2n + 2) = False := eq_false (by omega); obtain ⟨y3, hy3⟩ : ∃ x, x = y2 ++ (⟨#[69, 43]⟩ : ByteArray) := ⟨_, rfl⟩; obtain ⟨y3n, hy3n⟩ : ∃ x : Nat, x = y2n + 2 := ⟨_, rfl⟩; have szy3 : y3.size = y3n := (by rw [hy3, ByteArray.size_append, show y2.size = y2n by first | assumption | rfl, show (⟨#[69, 43]⟩ : ByteArray).size = 2 by first | assumption | rfl, hy3n]); have bdy3 : y3n ≤ 1000610 := (by omega); have Vy3 := Lib.hid hy3; replace hy3 := hy3.symm; clear hy3n; have HG10 := Lib.hid (heap_keeps b10 HG9.out); have HB10 := Lib.hid (below_step HB9.out b10); have Q10 := Lib.hid q10; have K10 := Lib.hid hk10; clear q10 hk10 b10; obtain ⟨d105, d107, d108, d109, d1010, d1013, d1014, d1015, d1016⟩ := HCELLS.out _ _ HG10.out)
        | (go_at_call 30; (with_reducible refine (HCOM.out _ (N.moreP p m) _ HX.out (by have h_ := congrArg ByteArray.size HX.out; rw [mkB_size] at h_; omega) (N.more_long HG.out m)).mono ?_); rintro e W9 ⟨y, yn, rfl, q9, s9, bd9, b9⟩; have hyn : yn ≤ 1000300 := (by have h_ := congrArg ByteArray.size HX.out; rw [mkB_size] at h_; omega); have HG9 := Lib.hid (heap_keeps b9 HG7.out); have HB9 := Lib.hid (below_step HB7.out b9); have Q9 := Lib.hid q9; clear q9 b9 bd9; obtain ⟨d95, d97, d98, d99, d910, d913, d914, d915, d916⟩ := HCELLS.out _ _ HG9.out)
        | ((with_reducible refine gate_dst (N := 59) rfl ?_); refine wpList_load_mid rfl 25 (.tmp 2) rfl w.heap.size 0 rfl cs.toList _ (row_range (HG7.out)) Tryd.underlying25 rfl (by rw [Array.length_toList, HSZ.out]; kernel_rfl) ?_)
        | (go_at_call 28; (with_reducible refine (HREP.out 35 _ _ (by omega)).mono ?_); rintro e W7 ⟨z7, k7, rfl, q7, s7, hk7, b7⟩; have hk7b : k7 ≤ 81 := (by omega); have fav : z7.size + u.size ≤ 9223372036854775807 := (by rw [show z7.size = k7 by first | assumption | rfl, show u.size = un by first | assumption | rfl]; omega); have fbv : k7 + un ≤ 9223372036854775807 := (by omega); have fcv : (9223372036854775807 < k7 + un) = False := eq_false (by omega); obtain ⟨v, hv⟩ : ∃ x, x = z7 ++ u := ⟨_, rfl⟩; obtain ⟨vn, hvn⟩ : ∃ x : Nat, x = k7 + un := ⟨_, rfl⟩; have szv : v.size = vn := (by rw [hv, ByteArray.size_append, show z7.size = k7 by first | assumption | rfl, show u.size = un by first | assumption | rfl, hvn]); have bdv : vn ≤ 200 := (by omega); have Vv := Lib.hid hv; replace hv := hv.symm; clear hvn; have HV : Hid (v = mkB (N.padP p)) := Lib.hid (by rw [Vv.out, q7, HU.out, mkB_app, ← szu, HU.out, mkB_size, HE.out.2.2.2.2.2.2.1]; rfl); have HX : Hid (v = mkB (N.moreP p m)) := Lib.hid (by rw [HV.out]; unfold N.moreP; rw [if_pos HE.out.2.2.2.2.2.2.2.2.1.symm]); have HG7 := Lib.hid (heap_keeps b7 HG6.out); have HB7 := Lib.hid (below_step HB6.out b7); have Q7 := Lib.hid q7; have K7 := Lib.hid hk7; clear q7 hk7 b7; obtain ⟨d75, d77, d78, d79, d710, d713, d714, d715, d716⟩ := HCELLS.out _ _ HG7.out)
      )
      go_ret
      refine ⟨?_, HB11.out⟩
      have HR := HE.out.2.2.2.2.2.2.2.2.2.2
      have e3 := HE.out.2.2.1
      have e2 := HE.out.2.1
      have e6 := HE.out.2.2.2.2.2.1
      have e9 := HE.out.2.2.2.2.2.2.2.2.1
      have e10 := HE.out.2.2.2.2.2.2.2.2.2.1
      have hfr : N.fracP p = 46 :: ((N.digitsN p).drop p.minInt ++ N.rp 35 ((p.maxFrac : Int) - p.minFrac)) := by
        unfold N.fracP
        exact if_pos (by omega)
      have hex : N.expP p = 69 :: ([43] ++ N.rp 48 p.minExp) := by
        unfold N.expP
        rw [← e9, ← e10]
        rfl
      rw [HR]
      unfold N.printN
      rw [hfr, hex]
      rw [Vy4.out, Vy3.out, Vy2.out, Q9.out, Vp2.out, Vp1.out, HDF.out, Q10.out, e3, e2, show (⟨#[46]⟩ : ByteArray) = mkB [46] from rfl, Q11.out, e6, show (⟨#[69, 43]⟩ : ByteArray) = mkB [69, 43] from rfl]
      simp only [mkB_app]
      simp
    · -- sci True, maxFrac True, plus False
      subst hsc
      subst hpl
      go_wp2_with (first
        | ((with_reducible refine gate_dst (N := 43) rfl ?_); refine wpList_load_mid rfl 25 (.tmp 2) rfl w.heap.size 0 rfl cs.toList _ (row_range (HG5.out)) Tryd.underlying25 rfl (by rw [Array.length_toList, HSZ.out]; kernel_rfl) ?_)
        | (go_at_call 29; (with_reducible refine (HLEAST.out _).mono ?_); rintro e W6 ⟨rfl, b6⟩; have HG6 := Lib.hid (heap_keeps b6 HG5.out); have HB6 := Lib.hid (below_step HB5.out b6); clear b6)
        | (go_at_call 28; (with_reducible refine (HREP.out 48 _ _ (by omega)).mono ?_); rintro e W11 ⟨z11, k11, rfl, q11, s11, hk11, b11⟩; have hk11b : k11 ≤ 9 := (by omega); have fay4 : y3.size + z11.size ≤ 9223372036854775807 := (by rw [show y3.size = y3n by first | assumption | rfl, show z11.size = k11 by first | assumption | rfl]; omega); have fby4 : y3n + k11 ≤ 9223372036854775807 := (by omega); have fcy4 : (9223372036854775807 < y3n + k11) = False := eq_false (by omega); obtain ⟨y4, hy4⟩ : ∃ x, x = y3 ++ z11 := ⟨_, rfl⟩; obtain ⟨y4n, hy4n⟩ : ∃ x : Nat, x = y3n + k11 := ⟨_, rfl⟩; have szy4 : y4.size = y4n := (by rw [hy4, ByteArray.size_append, show y3.size = y3n by first | assumption | rfl, show z11.size = k11 by first | assumption | rfl, hy4n]); have bdy4 : y4n ≤ 1000700 := (by omega); have Vy4 := Lib.hid hy4; replace hy4 := hy4.symm; clear hy4n; have HG11 := Lib.hid (heap_keeps b11 HG10.out); have HB11 := Lib.hid (below_step HB10.out b11); have Q11 := Lib.hid q11; have K11 := Lib.hid hk11; clear q11 hk11 b11; obtain ⟨d115, d117, d118, d119, d1110, d1113, d1114, d1115, d1116⟩ := HCELLS.out _ _ HG11.out)
        | (go_at_call 28; (with_reducible refine (HREP.out 35 _ _ (by omega)).mono ?_); rintro e W10 ⟨z10, k10, rfl, q10, s10, hk10, b10⟩; have hk10b : k10 ≤ 40 := (by omega); have fap2 : p1.size + z10.size ≤ 9223372036854775807 := (by rw [show p1.size = p1n by first | assumption | rfl, show z10.size = k10 by first | assumption | rfl]; omega); have fbp2 : p1n + k10 ≤ 9223372036854775807 := (by omega); have fcp2 : (9223372036854775807 < p1n + k10) = False := eq_false (by omega); obtain ⟨p2, hp2⟩ : ∃ x, x = p1 ++ z10 := ⟨_, rfl⟩; obtain ⟨p2n, hp2n⟩ : ∃ x : Nat, x = p1n + k10 := ⟨_, rfl⟩; have szp2 : p2.size = p2n := (by rw [hp2, ByteArray.size_append, show p1.size = p1n by first | assumption | rfl, show z10.size = k10 by first | assumption | rfl, hp2n]); have bdp2 : p2n ≤ 200 := (by omega); have Vp2 := Lib.hid hp2; replace hp2 := hp2.symm; clear hp2n; have fay2 : y.size + p2.size ≤ 9223372036854775807 := (by rw [show y.size = yn by first | assumption | rfl, show p2.size = p2n by first | assumption | rfl]; omega); have fby2 : yn + p2n ≤ 9223372036854775807 := (by omega); have fcy2 : (9223372036854775807 < yn + p2n) = False := eq_false (by omega); obtain ⟨y2, hy2⟩ : ∃ x, x = y ++ p2 := ⟨_, rfl⟩; obtain ⟨y2n, hy2n⟩ : ∃ x : Nat, x = yn + p2n := ⟨_, rfl⟩; have szy2 : y2.size = y2n := (by rw [hy2, ByteArray.size_append, show y.size = yn by first | assumption | rfl, show p2.size = p2n by first | assumption | rfl, hy2n]); have bdy2 : y2n ≤ 1000600 := (by omega); have Vy2 := Lib.hid hy2; replace hy2 := hy2.symm; clear hy2n; have fay3 : y2.size + (⟨#[69]⟩ : ByteArray).size ≤ 9223372036854775807 := (by rw [show y2.size = y2n by first | assumption | rfl, show (⟨#[69]⟩ : ByteArray).size = 1 by first | assumption | rfl]; omega); have fby3 : y2n + 1 ≤ 9223372036854775807 := (by omega); have fcy3 : (9223372036854775807 < y2n + 1) = False := eq_false (by omega); obtain ⟨y3, hy3⟩ : ∃ x, x = y2 ++ (⟨#[69]⟩ : ByteArray) := ⟨_, rfl⟩; obtain ⟨y3n, hy3n⟩ : ∃ x : Nat, x = y2n + 1 := ⟨_, rfl⟩; have szy3 : y3.size = y3n := (by rw [hy3, ByteArray.size_append, show y2.size = y2n by first | assumption | rfl, show (⟨#[69]⟩ : ByteArray).size = 1 by first | assumption | rfl, hy3n]); have bdy3 : y3n ≤ 1000610 := (by omega); have Vy3 := Lib.hid hy3; replace hy3 := hy3.symm; clear hy3n; have HG10 := Lib.hid (heap_keeps b10 HG9.out); have HB10 := Lib.hid (below_step HB9.out b10); have Q10 := Lib.hid q10; have K10 := Lib.hid hk10; clear q10 hk10 b10; obtain ⟨d105, d107, d108, d109, d1010, d1013, d1014, d1015, d1016⟩ := HCELLS.out _ _ HG10.out)
        | (go_at_call 30; (with_reducible refine (HCOM.out _ (N.moreP p m) _ HX.out (by have h_ := congrArg ByteArray.size HX.out; rw [mkB_size] at h_; omega) (N.more_long HG.out m)).mono ?_); rintro e W9 ⟨y, yn, rfl, q9, s9, bd9, b9⟩; have hyn : yn ≤ 1000300 := (by have h_ := congrArg ByteArray.size HX.out; rw [mkB_size] at h_; omega); have HG9 := Lib.hid (heap_keeps b9 HG7.out); have HB9 := Lib.hid (below_step HB7.out b9); have Q9 := Lib.hid q9; clear q9 b9 bd9; obtain ⟨d95, d97, d98, d99, d910, d913, d914, d915, d916⟩ := HCELLS.out _ _ HG9.out)
        | ((with_reducible refine gate_dst (N := 59) rfl ?_); refine wpList_load_mid rfl 25 (.tmp 2) rfl w.heap.size 0 rfl cs.toList _ (row_range (HG7.out)) Tryd.underlying25 rfl (by rw [Array.length_toList, HSZ.out]; kernel_rfl) ?_)
        | (go_at_call 28; (with_reducible refine (HREP.out 35 _ _ (by omega)).mono ?_); rintro e W7 ⟨z7, k7, rfl, q7, s7, hk7, b7⟩; have hk7b : k7 ≤ 81 := (by omega); have fav : z7.size + u.size ≤ 9223372036854775807 := (by rw [show z7.size = k7 by first | assumption | rfl, show u.size = un by first | assumption | rfl]; omega); have fbv : k7 + un ≤ 9223372036854775807 := (by omega); have fcv : (9223372036854775807 < k7 + un) = False := eq_false (by omega); obtain ⟨v, hv⟩ : ∃ x, x = z7 ++ u := ⟨_, rfl⟩; obtain ⟨vn, hvn⟩ : ∃ x : Nat, x = k7 + un := ⟨_, rfl⟩; have szv : v.size = vn := (by rw [hv, ByteArray.size_append, show z7.size = k7 by first | assumption | rfl, show u.size = un by first | assumption | rfl, hvn]); have bdv : vn ≤ 200 := (by omega); have Vv := Lib.hid hv; replace hv := hv.symm; clear hvn; have HV : Hid (v = mkB (N.padP p)) := Lib.hid (by rw [Vv.out, q7, HU.out, mkB_app, ← szu, HU.out, mkB_size, HE.out.2.2.2.2.2.2.1]; rfl); have HX : Hid (v = mkB (N.moreP p m)) := Lib.hid (by rw [HV.out]; unfold N.moreP; rw [if_pos HE.out.2.2.2.2.2.2.2.2.1.symm]); have HG7 := Lib.hid (heap_keeps b7 HG6.out); have HB7 := Lib.hid (below_step HB6.out b7); have Q7 := Lib.hid q7; have K7 := Lib.hid hk7; clear q7 hk7 b7; obtain ⟨d75, d77, d78, d79, d710, d713, d714, d715, d716⟩ := HCELLS.out _ _ HG7.out)
      )
      go_ret
      refine ⟨?_, HB11.out⟩
      have HR := HE.out.2.2.2.2.2.2.2.2.2.2
      have e3 := HE.out.2.2.1
      have e2 := HE.out.2.1
      have e6 := HE.out.2.2.2.2.2.1
      have e9 := HE.out.2.2.2.2.2.2.2.2.1
      have e10 := HE.out.2.2.2.2.2.2.2.2.2.1
      have hfr : N.fracP p = 46 :: ((N.digitsN p).drop p.minInt ++ N.rp 35 ((p.maxFrac : Int) - p.minFrac)) := by
        unfold N.fracP
        exact if_pos (by omega)
      have hex : N.expP p = 69 :: ([] ++ N.rp 48 p.minExp) := by
        unfold N.expP
        rw [← e9, ← e10]
        rfl
      rw [HR]
      unfold N.printN
      rw [hfr, hex]
      rw [Vy4.out, Vy3.out, Vy2.out, Q9.out, Vp2.out, Vp1.out, HDF.out, Q10.out, e3, e2, show (⟨#[46]⟩ : ByteArray) = mkB [46] from rfl, Q11.out, e6, show (⟨#[69]⟩ : ByteArray) = mkB [69] from rfl]
      simp only [mkB_app]
      simp
    · -- sci True, maxFrac False, plus True
      subst hsc
      subst hpl
      go_wp2_with (first
        | ((with_reducible refine gate_dst (N := 43) rfl ?_); refine wpList_load_mid rfl 25 (.tmp 2) rfl w.heap.size 0 rfl cs.toList _ (row_range (HG5.out)) Tryd.underlying25 rfl (by rw [Array.length_toList, HSZ.out]; kernel_rfl) ?_)
        | (go_at_call 29; (with_reducible refine (HLEAST.out _).mono ?_); rintro e W6 ⟨rfl, b6⟩; have HG6 := Lib.hid (heap_keeps b6 HG5.out); have HB6 := Lib.hid (below_step HB5.out b6); clear b6)
        | (go_at_call 28; (with_reducible refine (HREP.out 48 _ _ (by omega)).mono ?_); rintro e W11 ⟨z11, k11, rfl, q11, s11, hk11, b11⟩; have hk11b : k11 ≤ 9 := (by omega); have fay4 : y3.size + z11.size ≤ 9223372036854775807 := (by rw [show y3.size = y3n by first | assumption | rfl, show z11.size = k11 by first | assumption | rfl]; omega); have fby4 : y3n + k11 ≤ 9223372036854775807 := (by omega); have fcy4 : (9223372036854775807 < y3n + k11) = False := eq_false (by omega); obtain ⟨y4, hy4⟩ : ∃ x, x = y3 ++ z11 := ⟨_, rfl⟩; obtain ⟨y4n, hy4n⟩ : ∃ x : Nat, x = y3n + k11 := ⟨_, rfl⟩; have szy4 : y4.size = y4n := (by rw [hy4, ByteArray.size_append, show y3.size = y3n by first | assumption | rfl, show z11.size = k11 by first | assumption | rfl, hy4n]); have bdy4 : y4n ≤ 1000700 := (by omega); have Vy4 := Lib.hid hy4; replace hy4 := hy4.symm; clear hy4n; have HG11 := Lib.hid (heap_keeps b11 HG9.out); have HB11 := Lib.hid (below_step HB9.out b11); have Q11 := Lib.hid q11; have K11 := Lib.hid hk11; clear q11 hk11 b11; obtain ⟨d115, d117, d118, d119, d1110, d1113, d1114, d1115, d1116⟩ := HCELLS.out _ _ HG11.out)
        | (go_at_call 30; (with_reducible refine (HCOM.out _ (N.moreP p m) _ HX.out (by have h_ := congrArg ByteArray.size HX.out; rw [mkB_size] at h_; omega) (N.more_long HG.out m)).mono ?_); rintro e W9 ⟨y, yn, rfl, q9, s9, bd9, b9⟩; have hyn : yn ≤ 1000300 := (by have h_ := congrArg ByteArray.size HX.out; rw [mkB_size] at h_; omega); have HG9 := Lib.hid (heap_keeps b9 HG7.out); have HB9 := Lib.hid (below_step HB7.out b9); have Q9 := Lib.hid q9; clear q9 b9 bd9; obtain ⟨d95, d97, d98, d99, d910, d913, d914, d915, d916⟩ := HCELLS.out _ _ HG9.out; have fay3 : y.size + (⟨#[69, 43]⟩ : ByteArray).size ≤ 9223372036854775807 := (by rw [show y.size = yn by first | assumption | rfl, show (⟨#[69, 43]⟩ : ByteArray).size = 2 by first | assumption | rfl]; omega); have fby3 : yn + 2 ≤ 9223372036854775807 := (by omega); have fcy3 : (9223372036854775807 < yn + 2) = False := eq_false (by omega); obtain ⟨y3, hy3⟩ : ∃ x, x = y ++ (⟨#[69, 43]⟩ : ByteArray) := ⟨_, rfl⟩; obtain ⟨y3n, hy3n⟩ : ∃ x : Nat, x = yn + 2 := ⟨_, rfl⟩; have szy3 : y3.size = y3n := (by rw [hy3, ByteArray.size_append, show y.size = yn by first | assumption | rfl, show (⟨#[69, 43]⟩ : ByteArray).size = 2 by first | assumption | rfl, hy3n]); have bdy3 : y3n ≤ 1000310 := (by omega); have Vy3 := Lib.hid hy3; replace hy3 := hy3.symm; clear hy3n)
        | ((with_reducible refine gate_dst (N := 59) rfl ?_); refine wpList_load_mid rfl 25 (.tmp 2) rfl w.heap.size 0 rfl cs.toList _ (row_range (HG7.out)) Tryd.underlying25 rfl (by rw [Array.length_toList, HSZ.out]; kernel_rfl) ?_)
        | (go_at_call 28; (with_reducible refine (HREP.out 35 _ _ (by omega)).mono ?_); rintro e W7 ⟨z7, k7, rfl, q7, s7, hk7, b7⟩; have hk7b : k7 ≤ 81 := (by omega); have fav : z7.size + u.size ≤ 9223372036854775807 := (by rw [show z7.size = k7 by first | assumption | rfl, show u.size = un by first | assumption | rfl]; omega); have fbv : k7 + un ≤ 9223372036854775807 := (by omega); have fcv : (9223372036854775807 < k7 + un) = False := eq_false (by omega); obtain ⟨v, hv⟩ : ∃ x, x = z7 ++ u := ⟨_, rfl⟩; obtain ⟨vn, hvn⟩ : ∃ x : Nat, x = k7 + un := ⟨_, rfl⟩; have szv : v.size = vn := (by rw [hv, ByteArray.size_append, show z7.size = k7 by first | assumption | rfl, show u.size = un by first | assumption | rfl, hvn]); have bdv : vn ≤ 200 := (by omega); have Vv := Lib.hid hv; replace hv := hv.symm; clear hvn; have HV : Hid (v = mkB (N.padP p)) := Lib.hid (by rw [Vv.out, q7, HU.out, mkB_app, ← szu, HU.out, mkB_size, HE.out.2.2.2.2.2.2.1]; rfl); have HX : Hid (v = mkB (N.moreP p m)) := Lib.hid (by rw [HV.out]; unfold N.moreP; rw [if_pos HE.out.2.2.2.2.2.2.2.2.1.symm]); have HG7 := Lib.hid (heap_keeps b7 HG6.out); have HB7 := Lib.hid (below_step HB6.out b7); have Q7 := Lib.hid q7; have K7 := Lib.hid hk7; clear q7 hk7 b7; obtain ⟨d75, d77, d78, d79, d710, d713, d714, d715, d716⟩ := HCELLS.out _ _ HG7.out)
      )
      go_ret
      refine ⟨?_, HB11.out⟩
      have HR := HE.out.2.2.2.2.2.2.2.2.2.2
      have e3 := HE.out.2.2.1
      have e2 := HE.out.2.1
      have e6 := HE.out.2.2.2.2.2.1
      have e9 := HE.out.2.2.2.2.2.2.2.2.1
      have e10 := HE.out.2.2.2.2.2.2.2.2.2.1
      have hfr : N.fracP p = [] := by
        unfold N.fracP
        exact if_neg (by omega)
      have hex : N.expP p = 69 :: ([43] ++ N.rp 48 p.minExp) := by
        unfold N.expP
        rw [← e9, ← e10]
        rfl
      rw [HR]
      unfold N.printN
      rw [hfr, hex]
      rw [Vy4.out, Vy3.out, Q9.out, Q11.out, e6, show (⟨#[69, 43]⟩ : ByteArray) = mkB [69, 43] from rfl]
      simp only [mkB_app]
      simp
    · -- sci True, maxFrac False, plus False
      subst hsc
      subst hpl
      go_wp2_with (first
        | ((with_reducible refine gate_dst (N := 43) rfl ?_); refine wpList_load_mid rfl 25 (.tmp 2) rfl w.heap.size 0 rfl cs.toList _ (row_range (HG5.out)) Tryd.underlying25 rfl (by rw [Array.length_toList, HSZ.out]; kernel_rfl) ?_)
        | (go_at_call 29; (with_reducible refine (HLEAST.out _).mono ?_); rintro e W6 ⟨rfl, b6⟩; have HG6 := Lib.hid (heap_keeps b6 HG5.out); have HB6 := Lib.hid (below_step HB5.out b6); clear b6)
        | (go_at_call 28; (with_reducible refine (HREP.out 48 _ _ (by omega)).mono ?_); rintro e W11 ⟨z11, k11, rfl, q11, s11, hk11, b11⟩; have hk11b : k11 ≤ 9 := (by omega); have fay4 : y3.size + z11.size ≤ 9223372036854775807 := (by rw [show y3.size = y3n by first | assumption | rfl, show z11.size = k11 by first | assumption | rfl]; omega); have fby4 : y3n + k11 ≤ 9223372036854775807 := (by omega); have fcy4 : (9223372036854775807 < y3n + k11) = False := eq_false (by omega); obtain ⟨y4, hy4⟩ : ∃ x, x = y3 ++ z11 := ⟨_, rfl⟩; obtain ⟨y4n, hy4n⟩ : ∃ x : Nat, x = y3n + k11 := ⟨_, rfl⟩; have szy4 : y4.size = y4n := (by rw [hy4, ByteArray.size_append, show y3.size = y3n by first | assumption | rfl, show z11.size = k11 by first | assumption | rfl, hy4n]); have bdy4 : y4n ≤ 1000700 := (by omega); have Vy4 := Lib.hid hy4; replace hy4 := hy4.symm; clear hy4n; have HG11 := Lib.hid (heap_keeps b11 HG9.out); have HB11 := Lib.hid (below_step HB9.out b11); have Q11 := Lib.hid q11; have K11 := Lib.hid hk11; clear q11 hk11 b11; obtain ⟨d115, d117, d118, d119, d1110, d1113, d1114, d1115, d1116⟩ := HCELLS.out _ _ HG11.out)
        | (go_at_call 30; (with_reducible refine (HCOM.out _ (N.moreP p m) _ HX.out (by have h_ := congrArg ByteArray.size HX.out; rw [mkB_size] at h_; omega) (N.more_long HG.out m)).mono ?_); rintro e W9 ⟨y, yn, rfl, q9, s9, bd9, b9⟩; have hyn : yn ≤ 1000300 := (by have h_ := congrArg ByteArray.size HX.out; rw [mkB_size] at h_; omega); have HG9 := Lib.hid (heap_keeps b9 HG7.out); have HB9 := Lib.hid (below_step HB7.out b9); have Q9 := Lib.hid q9; clear q9 b9 bd9; obtain ⟨d95, d97, d98, d99, d910, d913, d914, d915, d916⟩ := HCELLS.out _ _ HG9.out; have fay3 : y.size + (⟨#[69]⟩ : ByteArray).size ≤ 9223372036854775807 := (by rw [show y.size = yn by first | assumption | rfl, show (⟨#[69]⟩ : ByteArray).size = 1 by first | assumption | rfl]; omega); have fby3 : yn + 1 ≤ 9223372036854775807 := (by omega); have fcy3 : (9223372036854775807 < yn + 1) = False := eq_false (by omega); obtain ⟨y3, hy3⟩ : ∃ x, x = y ++ (⟨#[69]⟩ : ByteArray) := ⟨_, rfl⟩; obtain ⟨y3n, hy3n⟩ : ∃ x : Nat, x = yn + 1 := ⟨_, rfl⟩; have szy3 : y3.size = y3n := (by rw [hy3, ByteArray.size_append, show y.size = yn by first | assumption | rfl, show (⟨#[69]⟩ : ByteArray).size = 1 by first | assumption | rfl, hy3n]); have bdy3 : y3n ≤ 1000310 := (by omega); have Vy3 := Lib.hid hy3; replace hy3 := hy3.symm; clear hy3n)
        | ((with_reducible refine gate_dst (N := 59) rfl ?_); refine wpList_load_mid rfl 25 (.tmp 2) rfl w.heap.size 0 rfl cs.toList _ (row_range (HG7.out)) Tryd.underlying25 rfl (by rw [Array.length_toList, HSZ.out]; kernel_rfl) ?_)
        | (go_at_call 28; (with_reducible refine (HREP.out 35 _ _ (by omega)).mono ?_); rintro e W7 ⟨z7, k7, rfl, q7, s7, hk7, b7⟩; have hk7b : k7 ≤ 81 := (by omega); have fav : z7.size + u.size ≤ 9223372036854775807 := (by rw [show z7.size = k7 by first | assumption | rfl, show u.size = un by first | assumption | rfl]; omega); have fbv : k7 + un ≤ 9223372036854775807 := (by omega); have fcv : (9223372036854775807 < k7 + un) = False := eq_false (by omega); obtain ⟨v, hv⟩ : ∃ x, x = z7 ++ u := ⟨_, rfl⟩; obtain ⟨vn, hvn⟩ : ∃ x : Nat, x = k7 + un := ⟨_, rfl⟩; have szv : v.size = vn := (by rw [hv, ByteArray.size_append, show z7.size = k7 by first | assumption | rfl, show u.size = un by first | assumption | rfl, hvn]); have bdv : vn ≤ 200 := (by omega); have Vv := Lib.hid hv; replace hv := hv.symm; clear hvn; have HV : Hid (v = mkB (N.padP p)) := Lib.hid (by rw [Vv.out, q7, HU.out, mkB_app, ← szu, HU.out, mkB_size, HE.out.2.2.2.2.2.2.1]; rfl); have HX : Hid (v = mkB (N.moreP p m)) := Lib.hid (by rw [HV.out]; unfold N.moreP; rw [if_pos HE.out.2.2.2.2.2.2.2.2.1.symm]); have HG7 := Lib.hid (heap_keeps b7 HG6.out); have HB7 := Lib.hid (below_step HB6.out b7); have Q7 := Lib.hid q7; have K7 := Lib.hid hk7; clear q7 hk7 b7; obtain ⟨d75, d77, d78, d79, d710, d713, d714, d715, d716⟩ := HCELLS.out _ _ HG7.out)
      )
      go_ret
      refine ⟨?_, HB11.out⟩
      have HR := HE.out.2.2.2.2.2.2.2.2.2.2
      have e3 := HE.out.2.2.1
      have e2 := HE.out.2.1
      have e6 := HE.out.2.2.2.2.2.1
      have e9 := HE.out.2.2.2.2.2.2.2.2.1
      have e10 := HE.out.2.2.2.2.2.2.2.2.2.1
      have hfr : N.fracP p = [] := by
        unfold N.fracP
        exact if_neg (by omega)
      have hex : N.expP p = 69 :: ([] ++ N.rp 48 p.minExp) := by
        unfold N.expP
        rw [← e9, ← e10]
        rfl
      rw [HR]
      unfold N.printN
      rw [hfr, hex]
      rw [Vy4.out, Vy3.out, Q9.out, Q11.out, e6, show (⟨#[69]⟩ : ByteArray) = mkB [69] from rfl]
      simp only [mkB_app]
      simp
theorem print_calls (p : N.NP) (g : N.Good p) (m : Int) (hm : m ≤ 1000000) (w : World) :
    Calls Tryd.prog 13 #[.agg (patN p), .int .i64 m] w fun e w' => e = .returned (.string (mkB (N.printN p m))) ∧ Below w.heap.size w w' :=
  print_walk p g _ rfl m hm w _ _ _ _ _ _ _ _ _ _ _ rfl rfl rfl rfl rfl rfl rfl rfl rfl rfl rfl _ rfl
end Go.Proofs.YtgobcejjefgkcaaDoor.Print
