/- The law UtfTurned: what it answers, as a plain function, and its contract. -/
import Derived.Test.YtegcjanglneciaaDoorPrint1
import Derived.Test.YtegcjanglneciaaDoorPrint2
import Derived.Test.YtegcjanglneciaaDoorFU
import Derived.Test.YtegcjanglneciaaDoorPA11
import Derived.Lib.ConvBytes
import Derived.Laws.BytesArg
import Derived.BigRegion
import Derived.BigQuiet
import Derived.Laws.BitsAllLaws
namespace Go.Proofs.YtegcjanglneciaaDoor.Print
open Go.RowKit Go.Lib Go.Proofs.YtegcjanglneciaaDoor.U Go.Proofs.YtegcjanglneciaaDoor.Utf Go.Proofs.YtegcjanglneciaaDoor.Pure Go.Proofs.YtegcjanglneciaaDoorW.PrintWords Go.Proofs.YtegcjanglneciaaDoorW.PrintLast Go.Proofs.YtegcjanglneciaaDoorW.PrintMore
set_option linter.unusedVariables false
set_option linter.unusedSimpArgs false

def figureheadlaw11_UtfTurned.f (a0 : ByteArray) (a1 a2 : Int) : Option Bool := if 0 ≤ a1 ∧ a1 ≤ 65535 ∧ 0 ≤ a2 ∧ a2 ≤ 255 ∧ a0.size ≤ 140737488351232 then some true else none
theorem bytesWorld_below (w : World) (e : TypeId) (s : ByteArray) : Below w.heap.size w (Lib.bytesWorld w e s) :=
  ⟨rfl, rfl, rfl, by rw [Lib.bytesWorld_size]; omega, fun i hi => Lib.bytesWorld_at_old w e s i hi⟩

theorem encAll_geV (l : List Int) : l.length ≤ (encAll l).length := by
  induction l with
  | nil => simp [encAll]
  | cons x l ih =>
    rw [encAll_cons, List.length_append, List.length_cons]
    have := (enc_len x).1
    omega
set_option maxHeartbeats 8000000 in
set_option maxRecDepth 1000000 in
theorem figureheadlaw11_UtfTurned.calls (a0 : ByteArray) (a1 a2 : Int) (r : Bool) (w : World) (hT : Tabs w) (h : figureheadlaw11_UtfTurned.f a0 a1 a2 = some r) :
    Calls Tryd.prog 3 #[.string a0, .int .u16 a1, .int .u8 a2] w fun e w' => e = .returned (.bool r) ∧ Below w.heap.size w w' := by
  unfold figureheadlaw11_UtfTurned.f at h
  by_cases hg : 0 ≤ a1 ∧ a1 ≤ 65535 ∧ 0 ≤ a2 ∧ a2 ≤ 255 ∧ a0.size ≤ 140737488351232
  rotate_left
  · rw [if_neg hg] at h; cases h
  rw [if_pos hg] at h
  obtain rfl := Option.some.inj h
  clear h
  obtain ⟨h10, h11, h20, h21, hsz⟩ := hg
  obtain ⟨ka, hka⟩ := answers11
  have HA := Lib.hid (hka ka (Nat.le_refl _))
  have HT := Lib.hid hT
  clear hka hT
  by_cases hz : a0.size = 0
  · have z0 : (((a0.size : Nat) : Int) == 0) = true := by rw [hz]; rfl
    clear hz
    go_enter Tryd.func3, Tryd.ntmps3
    go_wp2_with (go_at_call 4; (with_reducible refine (figureheadlaw11_answers.calls ka true _ HT.out HA.out).mono ?_); rintro e W1 ⟨rfl, b1⟩)
    go_ret
    exact ⟨rfl, b1⟩
  have z0 : (((a0.size : Nat) : Int) == 0) = false := beq_eq_false_iff_ne.2 (by omega)
  by_cases h5 : a0.size > 500
  · have z5 : decide ((500 : Int) < ((a0.size : Nat) : Int)) = true := decide_eq_true (by omega)
    clear hz h5
    go_enter Tryd.func3, Tryd.ntmps3
    go_wp2_with (go_at_call 4; (with_reducible refine (figureheadlaw11_answers.calls ka true _ HT.out HA.out).mono ?_); rintro e W1 ⟨rfl, b1⟩)
    go_ret
    exact ⟨rfl, b1⟩
  have z5 : decide ((500 : Int) < ((a0.size : Nat) : Int)) = false := decide_eq_false (by omega)
  by_cases hb : a2 = 0
  · have zb : (a2 == 0) = true := by rw [hb]; rfl
    clear hz h5 hb
    go_enter Tryd.func3, Tryd.ntmps3
    go_wp2_with (go_at_call 4; (with_reducible refine (figureheadlaw11_answers.calls ka true _ HT.out HA.out).mono ?_); rintro e W1 ⟨rfl, b1⟩)
    go_ret
    exact ⟨rfl, b1⟩
  have zb : (a2 == 0) = false := beq_eq_false_iff_ne.2 hb
  have hcv := Lib.run_convert_string_bytes (P := Tryd.prog) w 9 24 5 a0 Tryd.underlying9 Tryd.underlying24 Tryd.underlying5
  have hbw := bytesWorld_below w 5 a0
  have hnew := Lib.bytesWorld_at_new w 5 a0
  have hwsz := Lib.bytesWorld_size w 5 a0
  obtain ⟨kk, hkk⟩ : ∃ kk : Nat, kk = a1.toNat % a0.size := ⟨_, rfl⟩
  have hkl : kk < a0.size := by rw [hkk]; exact Nat.mod_lt _ (by omega)
  have hrem : a1 % ((a0.size : Nat) : Int) = (kk : Int) := by rw [hkk, Int.natCast_emod, Int.toNat_of_nonneg h10]
  have hcl := Lib.bytesWorld_cell w 5 a0 kk hkl
  obtain ⟨cap, hcap⟩ : ∃ cap, cap = grownCap w a0.size 0 5 := ⟨_, rfl⟩
  rw [← hcap] at hcv
  obtain ⟨W1, hW1⟩ : ∃ W1, W1 = Lib.bytesWorld w 5 a0 := ⟨_, rfl⟩
  rw [← hW1] at hcv hbw hnew hwsz hcl
  obtain ⟨c, hc⟩ : ∃ c : Nat, c = (a0.data.toList.getD kk 0).toNat := ⟨_, rfl⟩
  rw [← hc] at hcl
  have HKK := Lib.hid hkk
  have HCAP := Lib.hid hcap
  have HW := Lib.hid hW1
  have HC := Lib.hid hc
  have hfz : W1.frozen? ⟨w.heap.size, kk, none⟩ = false := by
    have hbs : a0.size ≤ (Lib.bytesCells w 5 a0).size := by unfold Lib.bytesCells; rw [Array.size_append, Array.size_map]; exact Nat.le_add_right _ _
    unfold World.frozen?
    simp only [hnew]
    simp
    omega
  clear hkk hcap hW1 hc
  -- the byte that is turned, and the text that it makes
  have hc256 : c < 256 := by rw [HC.out]; exact UInt8.toNat_lt _
  obtain ⟨v, hv⟩ : ∃ v : Nat, v = c ^^^ a2.toNat := ⟨_, rfl⟩
  have hv256 : v < 256 := by rw [hv]; exact Nat.xor_lt_two_pow (n := 8) (by omega) (by omega)
  have hvc : v ≠ c := by
    rw [hv]
    intro e
    have h0 : c ^^^ (c ^^^ a2.toNat) = c ^^^ c := by rw [e]
    rw [← Nat.xor_assoc, Nat.xor_self, Nat.zero_xor] at h0
    omega
  have hbit : bits BinOp.xor IntKind.u8 ((c : Nat) : Int) a2 = ((v : Nat) : Int) := by
    have := u8_xor ((c : Nat) : Int) a2 (by omega) (by omega) h20 (by omega)
    rw [this, hv, Int.toNat_natCast]
  obtain ⟨xs, hxs⟩ : ∃ xs : List Int, xs = (bytesOf a0).set kk (v : Int) := ⟨_, rfl⟩
  have hbl : (bytesOf a0).length = a0.size := by unfold bytesOf; rw [List.length_map, ← L_len]
  have hxl : xs.length = a0.size := by rw [hxs, List.length_set, hbl]
  obtain ⟨S2, hS2⟩ : ∃ S2, S2 = strOfNums xs := ⟨_, rfl⟩
  have hne : L S2 ≠ L a0 := by
    intro e
    have e1 : (L S2)[kk]? = some (UInt8.ofNat v) := by
      have h1 : L S2 = xs.map (fun n => UInt8.ofNat n.toNat) := by rw [hS2]; simp [strOfNums, L]
      rw [h1, hxs, List.getElem?_map, List.getElem?_set_self (by rw [hbl]; exact hkl)]
      simp
    rw [e] at e1
    have e2 := HC.out
    rw [List.getD_eq_getElem?_getD, show a0.data.toList[kk]? = some (UInt8.ofNat v) from e1, Option.getD_some, UInt8.toNat_ofNat'] at e2
    omega
  have hs2 : S2.size = a0.size := by rw [hS2, ← L_len]; unfold strOfNums; simp [hxl]
  have hcells : ∀ i, i < a0.size → (W1.setCell ⟨w.heap.size, kk, none⟩ (.int .u8 (v : Int))).cell? ⟨w.heap.size, 0 + i, none⟩ = some (.int .u8 (xs.getD i 0)) := fun i hi => by
    rw [Nat.zero_add]
    by_cases e : i = kk
    · subst e
      have : xs.getD i 0 = (v : Int) := by rw [hxs, List.getD_eq_getElem?_getD, List.getElem?_set_self (by rw [hbl]; exact hkl)]; rfl
      rw [this]
      exact World.cell?_setCell_same _ _ _ hcl
    · have h1 : W1.cell? ⟨w.heap.size, i, none⟩ = some (.int .u8 (a0.data.toList.getD i 0).toNat) := by rw [HW.out]; exact Lib.bytesWorld_cell w 5 a0 i hi
      have h2 : xs.getD i 0 = (((L a0).getD i 0).toNat : Int) := by
        rw [hxs, List.getD_eq_getElem?_getD, List.getElem?_set_ne (fun h => e h.symm), ← List.getD_eq_getElem?_getD]
        unfold bytesOf
        rw [List.getD_eq_getElem?_getD, List.getElem?_map, List.getD_eq_getElem?_getD]
        show ((L a0)[i]?.map _).getD 0 = _
        cases (L a0)[i]? <;> rfl
      rw [h2]
      exact (World.cell?_setCell_other W1 _ _ _ (fun h => e (by injection h with _ h _; exact h.symm))).trans h1
  obtain ⟨rs1, rest1, hf1⟩ := form (L a0)
  obtain ⟨rs2, rest2, hf2⟩ := form (L S2)
  have hR1 := runes_val a0 (by omega) rs1 rest1 hf1
  have hR2 := runes_val S2 (by omega) rs2 rest2 hf2
  have hrs : rest1 = [] → rest2 = [] → rs1 ≠ rs2 := fun e1 e2 e => by
    apply hne
    rw [hf2.2.1, hf1.2.1, e1, e2, e]
  have hl1 : rs1.length ≤ 1000 := by
    have := congrArg List.length hf1.2.1
    rw [L_len, List.length_append] at this
    have := encAll_geV rs1
    omega
  obtain ⟨x1, hx1⟩ : ∃ x1, x1 = (if rest1 = [] then (rs1, true) else ([], false)) := ⟨_, rfl⟩
  obtain ⟨x2, hx2⟩ : ∃ x2, x2 = (if rest2 = [] then (rs2, true) else ([], false)) := ⟨_, rfl⟩
  rw [← hx1] at hR1
  rw [← hx2] at hR2
  obtain ⟨l1, ok1⟩ := x1
  obtain ⟨l2, ok2⟩ := x2
  have hlen1 : l1.length ≤ 1000 := by
    have := congrArg Prod.fst hx1
    simp only at this
    rw [this]
    split
    · exact hl1
    · simp
  have hne2 : ok1 = true → ok2 = true → l1 ≠ l2 := fun e1 e2 => by
    by_cases c1 : rest1 = []
    · rw [if_pos c1] at hx1
      by_cases c2 : rest2 = []
      · rw [if_pos c2] at hx2
        have q1 : l1 = rs1 := congrArg Prod.fst hx1
        have q2 : l2 = rs2 := congrArg Prod.fst hx2
        rw [q1, q2]
        exact hrs c1 c2
      · rw [if_neg c2] at hx2
        have := congrArg Prod.snd hx2
        simp only at this
        rw [this] at e2; cases e2
    · rw [if_neg c1] at hx1
      have := congrArg Prod.snd hx1
      simp only at this
      rw [this] at e1; cases e1
  obtain ⟨kb, hkb⟩ := same_ev l1 l2 (by omega)
  have HSM := Lib.hid (hkb kb (Nat.le_refl _))
  have HR1 := Lib.hid hR1
  have HR2 := Lib.hid hR2
  have HCE := Lib.hid hcells
  have HS2 := Lib.hid hS2
  have HXL := Lib.hid hxl
  have HNE := Lib.hid hne2
  clear hkb hR1 hR2 hx1 hx2 hrs hne hf1 hf2 hcells hS2 hs2 hxs hxl hbl hv hvc hne2 hl1 hlen1 hv256 hc256
  go_enter Tryd.func3, Tryd.ntmps3
  have hbw2 : Below w.heap.size w (W1.setCell ⟨w.heap.size, kk, none⟩ (.int .u8 (v : Int))) := below_set hbw (Nat.le_refl _)
  cases ok1 with
  | false =>
    go_wp2_with (first | (go_at_call 5; (with_reducible refine (utf_Runes.calls a0 l1 _ _ (Tabs_below HT.out hbw2) HR1.out).mono ?_); rintro e W3 ⟨v1, rfl, hr1, b3⟩; obtain ⟨A1, c1, rfl⟩ := Kd.R_slice hr1; have hbw3 := hbw2.trans (b3.mono hbw2.size); have hcb : (convert 24 9 (.slice (some ⟨w.heap.size, 0, none⟩) a0.size cap)).run Tryd.prog W3 = .ok (.string S2) W3 := (by rw [HS2.out]; exact run_convert_bytes_arg W3 24 5 Tryd.underlying24 Tryd.underlying5 w.heap.size 0 a0.size cap xs HXL.out (fun i hi => (b3.cell (p := ⟨w.heap.size, 0 + i, none⟩) (World.block_lt_of_cell? _ _ (HCE.out i hi))).trans (HCE.out i hi)) 9 Tryd.underlying9)) | (go_at_call 5; (with_reducible refine (utf_Runes.calls S2 l2 _ _ (Tabs_below HT.out hbw3) HR2.out).mono ?_); rintro e W4 ⟨v2, rfl, hr2, b4⟩; obtain ⟨A2, c2, rfl⟩ := Kd.R_slice hr2; have hbw4 := hbw3.trans (b4.mono hbw3.size)) | (go_at_call 4; (with_reducible refine (figureheadlaw11_answers.calls ka true _ (Tabs_below HT.out hbw4) HA.out).mono ?_); rintro e W5 ⟨rfl, b5⟩; have hbw5 := hbw4.trans (b5.mono hbw4.size)))
    go_ret
    exact ⟨rfl, hbw5⟩
  | true =>
    cases ok2 with
    | false =>
      go_wp2_with (first | (go_at_call 5; (with_reducible refine (utf_Runes.calls a0 l1 _ _ (Tabs_below HT.out hbw2) HR1.out).mono ?_); rintro e W3 ⟨v1, rfl, hr1, b3⟩; obtain ⟨A1, c1, rfl⟩ := Kd.R_slice hr1; have hbw3 := hbw2.trans (b3.mono hbw2.size); have hcb : (convert 24 9 (.slice (some ⟨w.heap.size, 0, none⟩) a0.size cap)).run Tryd.prog W3 = .ok (.string S2) W3 := (by rw [HS2.out]; exact run_convert_bytes_arg W3 24 5 Tryd.underlying24 Tryd.underlying5 w.heap.size 0 a0.size cap xs HXL.out (fun i hi => (b3.cell (p := ⟨w.heap.size, 0 + i, none⟩) (World.block_lt_of_cell? _ _ (HCE.out i hi))).trans (HCE.out i hi)) 9 Tryd.underlying9)) | (go_at_call 5; (with_reducible refine (utf_Runes.calls S2 l2 _ _ (Tabs_below HT.out hbw3) HR2.out).mono ?_); rintro e W4 ⟨v2, rfl, hr2, b4⟩; obtain ⟨A2, c2, rfl⟩ := Kd.R_slice hr2; have hbw4 := hbw3.trans (b4.mono hbw3.size)) | (go_at_call 4; (with_reducible refine (figureheadlaw11_answers.calls ka true _ (Tabs_below HT.out hbw4) HA.out).mono ?_); rintro e W5 ⟨rfl, b5⟩; have hbw5 := hbw4.trans (b5.mono hbw4.size)))
      go_ret
      exact ⟨rfl, hbw5⟩
    | true =>
      have hse := HSM.out
      rw [decide_eq_false (HNE.out rfl rfl)] at hse
      have HSE := Lib.hid hse
      clear hse
      go_wp2_with (first | (go_at_call 5; (with_reducible refine (utf_Runes.calls a0 l1 _ _ (Tabs_below HT.out hbw2) HR1.out).mono ?_); rintro e W3 ⟨v1, rfl, hr1, b3⟩; obtain ⟨A1, c1, rfl⟩ := Kd.R_slice hr1; have hbw3 := hbw2.trans (b3.mono hbw2.size); have hcb : (convert 24 9 (.slice (some ⟨w.heap.size, 0, none⟩) a0.size cap)).run Tryd.prog W3 = .ok (.string S2) W3 := (by rw [HS2.out]; exact run_convert_bytes_arg W3 24 5 Tryd.underlying24 Tryd.underlying5 w.heap.size 0 a0.size cap xs HXL.out (fun i hi => (b3.cell (p := ⟨w.heap.size, 0 + i, none⟩) (World.block_lt_of_cell? _ _ (HCE.out i hi))).trans (HCE.out i hi)) 9 Tryd.underlying9)) | (go_at_call 5; (with_reducible refine (utf_Runes.calls S2 l2 _ _ (Tabs_below HT.out hbw3) HR2.out).mono ?_); rintro e W4 ⟨v2, rfl, hr2, b4⟩; obtain ⟨A2, c2, rfl⟩ := Kd.R_slice hr2; have hbw4 := hbw3.trans (b4.mono hbw3.size)) | (go_at_call 4; (with_reducible refine (figureheadlaw11_answers.calls ka true _ (Tabs_below HT.out hbw4) HA.out).mono ?_); rintro e W5 ⟨rfl, b5⟩; have hbw5 := hbw4.trans (b5.mono hbw4.size)) | (go_at_call 6; (with_reducible refine (figureheadref11_Same.calls kb A1 c1 l1 A2 c2 l2 false _ (Kd.C_below (Kd.C_below (Kd.R_reads' hr1).2.2 b4) b5) (Kd.R_reads' hr1).2.1 (Kd.C_below (Kd.R_reads' hr2).2.2 b5) (Kd.R_reads' hr2).2.1 HSE.out).mono ?_); rintro e W6 ⟨rfl, d6⟩; have b6 := d6.below; clear d6))
      go_ret
      exact ⟨rfl, hbw5.trans (b6.mono hbw5.size)⟩
end Go.Proofs.YtegcjanglneciaaDoor.Print
