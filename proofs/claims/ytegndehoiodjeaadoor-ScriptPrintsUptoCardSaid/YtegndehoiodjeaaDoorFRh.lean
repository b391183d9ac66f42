/- The reference's Hex: what it answers, as a plain function, and its contract. -/
import Derived.Test.YtegndehoiodjeaaDoorPR
import Derived.Test.YtegndehoiodjeaaDoorFSl
namespace Go.Proofs.YtegndehoiodjeaaDoor.Print
open Go.RowKit Go.Proofs.YtegndehoiodjeaaDoorW.PrintWords Go.Proofs.YtegndehoiodjeaaDoorW.PrintLast Go.Proofs.YtegndehoiodjeaaDoorW.PrintMore
set_option linter.unusedVariables false
set_option linter.unusedSimpArgs false

def figureheadref25_Hex.f (s : ByteArray) : Option ByteArray := if s.size ≤ 1000000000000 then some ⟨(Q.hexL (U.L s)).toArray⟩ else none
theorem ext_hexR : ∀ q : Fin 16, (⟨#[48, 49, 50, 51, 52, 53, 54, 55, 56, 57, 97, 98, 99, 100, 101, 102]⟩ : ByteArray).extract q.1 (q.1 + 1) = ⟨#[Q.hd q.1]⟩ := by decide +kernel

set_option maxHeartbeats 8000000 in
set_option maxRecDepth 1000000 in
theorem figureheadref25_Hex.calls (s r : ByteArray) (w : World) (h : figureheadref25_Hex.f s = some r) : Calls Tryd.prog 13 #[.string s] w fun e w' => e = .returned (.string r) ∧ Below w.heap.size w w' := by
  unfold figureheadref25_Hex.f at h
  split at h
  rotate_left
  · cases h
  rename_i hs
  have HR := Lib.hid (Option.some.inj h)
  clear h
  go_enter Tryd.func13, Tryd.ntmps13
  go_wp2
  go_loopw [3, 4] (fun v3 v4 wx => ∃ (i : Nat) (a : ByteArray), v4 = .int .i64 i ∧ v3 = .string a ∧ i ≤ s.size ∧ a.size ≤ 2 * i ∧ Hid (a = ⟨(Q.hexL ((U.L s).take i)).toArray⟩) ∧ Below w.heap.size w wx) (fun v3 v4 wx => s.size - (RowKit.intOf v4).toNat)
  case atStart => exact ⟨0, ⟨#[]⟩, rfl, rfl, Nat.zero_le _, Nat.zero_le _, Lib.hid rfl, Below.refl _ w⟩
  case round =>
    obtain ⟨i, a, rfl, rfl, hi0, ha, hacc, hb⟩ := hrel
    by_cases hi : i < s.size
    · have hil : i < (U.L s).length := by rw [U.L_len]; exact hi
      obtain ⟨bn, hbn⟩ : ∃ bn, (s[i]'hi).toNat = bn := ⟨_, rfl⟩
      have hblt : bn < 256 := by rw [← hbn]; exact UInt8.toNat_lt _
      obtain ⟨q, hq⟩ : ∃ q, q = bn / 16 := ⟨_, rfl⟩
      obtain ⟨d, hd⟩ : ∃ d, d = bn % 16 := ⟨_, rfl⟩
      have e1 : Int.tdiv (bn : Int) 16 = (q : Int) := by rw [hq]; rfl
      have e3 : Int.tmod (bn : Int) 16 = (d : Int) := by rw [hd]; rfl
      have q16 : q < 16 := by omega
      have d16 : d < 16 := by omega
      have e1w : IntKind.u8.wrap (q : Int) = (q : Int) := by rw [IntKind.wrap_u8]; omega
      have e1m : (q : Int) % 256 = (q : Int) := by omega
      have e2w : IntKind.u8.wrap ((q : Int) + 1) = (q : Int) + 1 := by rw [IntKind.wrap_u8]; omega
      have e2m : ((q : Int) + 1) % 256 = (q : Int) + 1 := by omega
      have e3w : IntKind.u8.wrap (d : Int) = (d : Int) := by rw [IntKind.wrap_u8]; omega
      have e4w : IntKind.u8.wrap ((d : Int) + 1) = (d : Int) + 1 := by rw [IntKind.wrap_u8]; omega
      have e4m : ((d : Int) + 1) % 256 = (d : Int) + 1 := by omega
      have n2 : ((q : Int) + 1).toNat = q + 1 := by omega
      have n4 : ((d : Int) + 1).toNat = d + 1 := by omega
      have l1 : (q : Int) ≤ (q : Int) + 1 := by omega
      have l2 : (q : Int) + 1 ≤ 16 := by omega
      have l3 : (d : Int) ≤ (d : Int) + 1 := by omega
      have l4 : (d : Int) + 1 ≤ 16 := by omega
      have l0 : (0 : Int) ≤ (q : Int) + 1 := by omega
      have l5 : (0 : Int) ≤ (d : Int) + 1 := by omega
      obtain ⟨hx, hhx⟩ : ∃ hx : ByteArray, hx = ⟨#[Q.hd q]⟩ := ⟨_, rfl⟩
      obtain ⟨dx, hdx⟩ : ∃ dx : ByteArray, dx = ⟨#[Q.hd d]⟩ := ⟨_, rfl⟩
      have x1 : (⟨#[48, 49, 50, 51, 52, 53, 54, 55, 56, 57, 97, 98, 99, 100, 101, 102]⟩ : ByteArray).extract q (q + 1) = hx := by rw [hhx]; exact ext_hexR ⟨q, q16⟩
      have x2 : (⟨#[48, 49, 50, 51, 52, 53, 54, 55, 56, 57, 97, 98, 99, 100, 101, 102]⟩ : ByteArray).extract d (d + 1) = dx := by rw [hdx]; exact ext_hexR ⟨d, d16⟩
      have s1 : hx.size = 1 := by rw [hhx]; rfl
      have s2 : dx.size = 1 := by rw [hdx]; rfl
      have z1 : ¬ (9223372036854775807 < a.size + 1) := by omega
      have z2 : ¬ (9223372036854775807 ≤ a.size) := by omega
      have z3 : (a ++ hx).size = a.size + 1 := by rw [ByteArray.size_append, s1]
      have z4 : ¬ (9223372036854775807 < a.size + 1 + 1) := by omega
      have z5 : ¬ (9223372036854775807 ≤ a.size + 1) := by omega
      have z6 : ¬ (9223372036854775806 ≤ a.size) := by omega
      have HN : Hid (a ++ hx ++ dx = ⟨(Q.hexL ((U.L s).take (i + 1))).toArray⟩) := Lib.hid (by
        apply U.L_inj
        have a1 : U.L (⟨#[Q.hd q]⟩ : ByteArray) = [Q.hd q] := rfl
        have a2 : U.L (⟨#[Q.hd d]⟩ : ByteArray) = [Q.hd d] := rfl
        have hg : ((U.L s)[i]).toNat = bn := hbn
        rw [U.L_app, U.L_app, hacc.out, hhx, hdx, a1, a2, U.L_mk, U.L_mk, List.take_succ_eq_append_getElem hil, Pure.hexL_snoc, hg, ← hq, ← hd, List.append_assoc]
        rfl)
      clear hhx hdx hq hd q16 d16 hblt
      go_wp2
      go_quiet (fail)
      go_wp2
      go_roundw
      case rel => exact ⟨i + 1, a ++ hx ++ dx, by go_num, rfl, by omega, by rw [ByteArray.size_append, z3, s2]; omega, HN, below_step hb (Drawn0.below ⟨⟨nq, rfl⟩⟩)⟩
      case measure => first | (simp [RowKit.intOf]; done) | (simp [RowKit.intOf]; omega)
    · have hie : i = s.size := by omega
      subst hie
      go_wp2
      go_ret
      refine ⟨?_, hb⟩
      rw [← HR.out, hacc.out, List.take_of_length_le (by rw [U.L_len]; exact Nat.le_refl _)]
      rfl
end Go.Proofs.YtegndehoiodjeaaDoor.Print
