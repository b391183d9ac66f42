/- What the walk of the reference's Number leans on, taken out of layer 15's texts by this session's own program (wip/tools/closure.py). -/
import Derived.Test.YtkgdpgoianimjaaWWords
import Derived.Lib.Strings
import Derived.Lib.Hide
import Derived.WalkKit
import Derived.BigCall
import Derived.Deep.MidRow
import Derived.Deep.RegionHeld3
import Derived.Test.YtkgdpgoianimjaaFU
namespace Go.Proofs.Ytkgdpgoianimjaa.N
set_option linter.unusedVariables false
set_option linter.unusedSimpArgs false

abbrev Bs := List UInt8
def dig (c : UInt8) : Bool := decide (48 ≤ c.toNat) && decide (c.toNat ≤ 57)
def isH (c : UInt8) : Bool := c == 35
def isA (c : UInt8) : Bool := c == 64
def is0 (c : UInt8) : Bool := c == 48
def odd (c : UInt8) : Bool := !dig c && !(c == 35 || c == 64 || c == 44 || c == 46)
theorem isH_iff (c : UInt8) : isH c = true ↔ c = 35 := by simp [isH]
theorem isA_iff (c : UInt8) : isA c = true ↔ c = 64 := by simp [isA]
theorem is0_iff (c : UInt8) : is0 c = true ↔ c = 48 := by simp [is0]
/-- A text at the first c. -/
def cutC (c : UInt8) : Bs → Bs × Bs × Bool
  | [] => ([], [], false)
  | b :: r => if b = c then ([], r, true) else (b :: (cutC c r).1, (cutC c r).2.1, (cutC c r).2.2)
theorem cutC_none (c : UInt8) : ∀ (s : Bs), c ∉ s → cutC c s = (s, [], false)
  | [], _ => rfl
  | b :: r, h => by
    simp only [List.mem_cons, not_or] at h
    simp only [cutC, cutC_none c r h.2]
    rw [if_neg (fun e => h.1 e.symm)]
theorem cutC_at (c : UInt8) : ∀ (s t : Bs), c ∉ s → cutC c (s ++ c :: t) = (s, t, true)
  | [], t, _ => by simp [cutC]
  | b :: r, t, h => by
    simp only [List.mem_cons, not_or] at h
    simp only [List.cons_append, cutC, cutC_at c r t h.2]
    rw [if_neg (fun e => h.1 e.symm)]
theorem cutC_is (c : UInt8) : ∀ (s : Bs), c ∉ (cutC c s).1 ∧ (if (cutC c s).2.2 = true then s = (cutC c s).1 ++ c :: (cutC c s).2.1 else s = (cutC c s).1 ∧ (cutC c s).2.1 = [])
  | [] => by simp [cutC]
  | b :: r => by
    have ih := cutC_is c r
    simp only [cutC]
    split
    · rename_i h; subst h; simp
    · rename_i h
      refine ⟨by simp only [List.mem_cons, not_or]; exact ⟨fun e => h e.symm, ih.1⟩, ?_⟩
      have ih2 := ih.2
      split
      · rename_i h2; rw [if_pos h2] at ih2; rw [List.cons_append, ← ih2]
      · rename_i h2; rw [if_neg h2] at ih2; exact ⟨by rw [← ih2.1], ih2.2⟩
/-- A text, cut at each c. -/
def splitC (c : UInt8) : Bs → List Bs
  | [] => [[]]
  | b :: r => if b = c then [] :: splitC c r else match splitC c r with
    | [] => [[b]]
    | h :: t => (b :: h) :: t
theorem splitC_ne (c : UInt8) (s : Bs) : splitC c s ≠ [] := by
  cases s with
  | nil => simp [splitC]
  | cons b r =>
    simp only [splitC]
    split
    · simp
    · split <;> simp
theorem splitC_flat (c : UInt8) : ∀ (s : Bs), (splitC c s).flatten = s.filter (· != c)
  | [] => rfl
  | b :: r => by
    have ih := splitC_flat c r
    simp only [splitC]
    split
    · rename_i h; subst h; simp [ih]
    · rename_i h
      obtain ⟨x, t, hs⟩ := List.exists_cons_of_ne_nil (splitC_ne c r)
      rw [hs] at ih ⊢
      have : (b != c) = true := bne_iff_ne.2 h
      simp [List.filter_cons, this] at ih ⊢
      exact ih
def sp (a : UInt8 → Bool) (s : Bs) : Nat := (s.takeWhile a).length
theorem sp_le (a : UInt8 → Bool) (s : Bs) : sp a s ≤ s.length := (List.takeWhile_prefix a).length_le
theorem drop_sp (a : UInt8 → Bool) (s : Bs) : s.drop (sp a s) = s.dropWhile a := by
  have h := List.drop_left (l₁ := s.takeWhile a) (l₂ := s.dropWhile a)
  rwa [List.takeWhile_append_dropWhile] at h
theorem sp_drop (a : UInt8 → Bool) (s : Bs) : sp a s + (s.dropWhile a).length = s.length := by
  rw [← drop_sp, List.length_drop]; have := sp_le a s; omega
structure NP where
  (minInt maxInt minFrac maxFrac minSig maxSig prim sec : Nat) (inc : Bs) (sci : Bool) (minExp : Nat) (plus : Bool)
def np0 : NP := ⟨0, 0, 0, 0, 0, 0, 0, 0, [], false, 0, false⟩
def isPlus (exp : Bs) : Bool := exp.head? == some 43
def expX (exp : Bs) : Bs := if isPlus exp then exp.tail else exp
def expE (sci : Bool) (exp : Bs) : Int := if sci then (if (expX exp).dropWhile is0 ≠ [] ∨ sp is0 (expX exp) = 0 then 4 else if 9 < sp is0 (expX exp) then 8 else 0) else 0
def partsE (body : Bs) : Int := if body.any odd ∨ 1 < body.count 46 then 4 else if (cutC 46 body).2.2 ∧ (cutC 46 body).2.1 = [] then 4 else 0
def groupsE (whole frac : Bs) : Int := if 1 < (splitC 44 whole).length ∧ [] ∈ splitC 44 whole then 5 else if 44 ∈ frac then 5 else 0
def primN (l : List Bs) : Nat := if 1 < l.length then (l.getD (l.length - 1) []).length else 0
def secN (l : List Bs) : Nat := if 2 < l.length then (l.getD (l.length - 2) []).length else primN l
def plainN (whole : Bs) : Bs := (splitC 44 whole).flatten
def incN (pl fr : Bs) : Bs := (pl.dropWhile isH ++ fr.takeWhile dig).dropWhile is0
def sigE (point : Bool) (pl : Bs) : Int := if point ∨ pl.any dig then 6 else if ((pl.dropWhile isH).dropWhile isA).dropWhile isH ≠ [] ∨ sp isA (pl.dropWhile isH) = 0 then 4 else 0
def digE (sci : Bool) (pl fr : Bs) : Int := if (pl.dropWhile isH).dropWhile dig ≠ [] ∨ (fr.dropWhile dig).dropWhile isH ≠ [] then 4 else if incN pl fr ≠ [] ∧ (0 < sp isH (fr.dropWhile dig) ∨ sci) then 6 else 0
def countsE (point sci : Bool) (pl fr : Bs) : Int := if pl ++ fr = [] then 4 else if 64 ∈ pl ++ fr then sigE point pl else digE sci pl fr
def fieldsN (sci plus : Bool) (minExp prim sec : Nat) (pl fr : Bs) : NP :=
  if 64 ∈ pl ++ fr then ⟨0, 0, 0, 0, sp isA (pl.dropWhile isH), sp isA (pl.dropWhile isH) + sp isH ((pl.dropWhile isH).dropWhile isA), prim, sec, [], sci, minExp, plus⟩
  else ⟨sp dig (pl.dropWhile isH), if sci then pl.length else 0, sp dig fr, fr.length, 0, 0, prim, sec, incN pl fr, sci, minExp, plus⟩
def mixedE (p : NP) (pl : Bs) : Int :=
  if p.sci ∧ (0 < p.prim ∨ 0 < p.minSig ∧ pl.head? = some 35) then 6
  else if 40 < max p.minInt (max p.maxInt (max p.maxFrac (max p.maxSig (max p.prim (max p.sec p.inc.length))))) then 8 else 0
def bodyN (s : Bs) : Bs := (cutC 69 s).1
def expN (s : Bs) : Bs := (cutC 69 s).2.1
def sciN (s : Bs) : Bool := (cutC 69 s).2.2
def wholeN (s : Bs) : Bs := (cutC 46 (bodyN s)).1
def fracN (s : Bs) : Bs := (cutC 46 (bodyN s)).2.1
def pointN (s : Bs) : Bool := (cutC 46 (bodyN s)).2.2
def plN (s : Bs) : Bs := plainN (wholeN s)
def sayN (s : Bs) : NP := fieldsN (sciN s) (sciN s && isPlus (expN s)) (if sciN s then sp is0 (expX (expN s)) else 0) (primN (splitC 44 (wholeN s))) (secN (splitC 44 (wholeN s))) (plN s) (fracN s)
/-- The error's number. -/
def errN (s : Bs) : Int :=
  if expE (sciN s) (expN s) ≠ 0 then expE (sciN s) (expN s)
  else if partsE (bodyN s) ≠ 0 then partsE (bodyN s)
  else if groupsE (wholeN s) (fracN s) ≠ 0 then groupsE (wholeN s) (fracN s)
  else if countsE (pointN s) (sciN s) (plN s) (fracN s) ≠ 0 then countsE (pointN s) (sciN s) (plN s) (fracN s)
  else mixedE (sayN s) (plN s)
def numN (s : Bs) : NP × Int := if errN s = 0 then (sayN s, 0) else (np0, errN s)
theorem dw_head (a : UInt8 → Bool) : ∀ (s : Bs) (c : UInt8), (s.dropWhile a).head? = some c → a c = false
  | [], c, h => by simp at h
  | b :: r, c, h => by
    rw [List.dropWhile_cons] at h
    split at h
    · exact dw_head a r c h
    · rename_i hb
      simp at h
      subst h
      simpa using hb
theorem tw_all (a : UInt8 → Bool) : ∀ (s : Bs) (c : UInt8), c ∈ s.takeWhile a → a c = true
  | [], c, h => by simp at h
  | b :: r, c, h => by
    rw [List.takeWhile_cons] at h
    split at h
    · rename_i hb
      rcases List.mem_cons.1 h with rfl | h
      · exact hb
      · exact tw_all a r c h
    · cases h
theorem dw_nil {a : UInt8 → Bool} {s : Bs} (h : s.dropWhile a = []) : s.takeWhile a = s := by
  have := List.takeWhile_append_dropWhile (p := a) (l := s)
  rw [h, List.append_nil] at this
  exact this
theorem dw_len_le (a : UInt8 → Bool) (s : Bs) : (s.dropWhile a).length ≤ s.length := by have := sp_drop a s; omega
theorem frac_nil {s : Bs} (h : pointN s = false) : fracN s = [] := by
  have := (cutC_is 46 (bodyN s)).2
  unfold pointN at h
  rw [h] at this
  simp at this
  exact this.2
theorem flat_len : ∀ (l : List Bs), [] ∉ l → l.length ≤ l.flatten.length
  | [], _ => Nat.le_refl _
  | x :: l, h => by
    simp only [List.mem_cons, not_or] at h
    have := flat_len l h.2
    have hx : 0 < x.length := List.length_pos_iff.2 (fun e => h.1 e.symm)
    rw [List.flatten_cons, List.length_append, List.length_cons]; omega
theorem flat_two (l : List Bs) (h : [] ∉ l) (h1 : 1 < l.length) : primN l + 1 ≤ l.flatten.length ∧ 0 < primN l ∧ (2 < l.length → secN l + primN l + 1 ≤ l.flatten.length ∧ 0 < secN l) := by
  unfold secN primN
  rw [if_pos h1]
  obtain ⟨l1, z, rfl⟩ : ∃ l1 z, l = l1 ++ [z] := ⟨l.dropLast, l.getLast (fun e => by rw [e] at h1; cases h1), (List.dropLast_concat_getLast _).symm⟩
  simp only [List.mem_append, List.mem_singleton, not_or] at h
  have hz : 0 < z.length := List.length_pos_iff.2 (fun e => h.2 e.symm)
  have e1 : (l1 ++ [z]).getD ((l1 ++ [z]).length - 1) [] = z := by simp [List.getD]
  rw [e1]
  have k1 := flat_len l1 h.1
  have hl1 : 0 < l1.length := by simp at h1; omega
  refine ⟨by rw [List.flatten_append, List.length_append, List.flatten_singleton]; omega, hz, fun h2 => ?_⟩
  rw [if_pos h2]
  obtain ⟨l2, y, rfl⟩ : ∃ l2 y, l1 = l2 ++ [y] := ⟨l1.dropLast, l1.getLast (fun e => by rw [e] at hl1; cases hl1), (List.dropLast_concat_getLast _).symm⟩
  simp only [List.mem_append, List.mem_singleton, not_or] at h
  have hy : 0 < y.length := List.length_pos_iff.2 (fun e => h.1.2 e.symm)
  have e2 : (l2 ++ [y] ++ [z]).getD ((l2 ++ [y] ++ [z]).length - 2) [] = y := by simp [List.getD]
  rw [e2]
  have k2 := flat_len l2 h.1.1
  have hl2 : 0 < l2.length := by simp at h2; omega
  exact ⟨by rw [List.flatten_append, List.flatten_append, List.length_append, List.length_append, List.flatten_singleton, List.flatten_singleton]; omega, hy⟩
theorem groupsE_is {w f : Bs} (h : groupsE w f = 0) (h1 : 1 < (splitC 44 w).length) : [] ∉ splitC 44 w := fun hm => by
  unfold groupsE at h
  rw [if_pos ⟨h1, hm⟩] at h
  contradiction
theorem dw_no (a : UInt8 → Bool) : ∀ (t : Bs), (∀ c, t.head? = some c → a c = false) → t.dropWhile a = t
  | [], _ => rfl
  | b :: r, h => by rw [List.dropWhile_cons, h b rfl]; rfl
theorem dig_not {c : UInt8} (h : dig c = true) : isH c = false ∧ isA c = false ∧ c ≠ 64 := by
  refine ⟨?_, ?_, ?_⟩
  · cases hc : isH c with
    | false => rfl
    | true => rw [isH_iff] at hc; subst hc; revert h; decide
  · cases hc : isA c with
    | false => rfl
    | true => rw [isA_iff] at hc; subst hc; revert h; decide
  · rintro rfl; revert h; decide
theorem cut_len (c : UInt8) (s : Bs) : s.length = (cutC c s).1.length + (if (cutC c s).2.2 = true then 1 + (cutC c s).2.1.length else 0) := by
  have := (cutC_is c s).2
  split at this
  · rename_i h
    rw [if_pos h]
    have := congrArg List.length this
    rw [List.length_append, List.length_cons] at this
    omega
  · rename_i h
    rw [if_neg h]
    have := congrArg List.length this.1
    omega

abbrev L (s : ByteArray) : List UInt8 := s.data.toList
theorem L_len (s : ByteArray) : (L s).length = s.size := Array.length_toList
theorem L_extD (s : ByteArray) (i : Nat) : L (s.extract i s.size) = (L s).drop i := by
  have h : L (s.extract i s.size) = ((L s).drop i).take (s.size - i) := Lib.extract_data s i s.size
  rw [h, List.take_of_length_le]
  rw [List.length_drop, L_len]
  exact Nat.le_refl _
end Go.Proofs.Ytkgdpgoianimjaa.N
namespace Go.Proofs.Ytkgdpgoianimjaa.Print
open Go.RowKit Go.Proofs.YtkgdpgoianimjaaW.PrintWords Go.Proofs.YtkgdpgoianimjaaW.PrintLast Go.Proofs.YtkgdpgoianimjaaW.PrintMore
set_option linter.unusedVariables false
set_option linter.unusedSimpArgs false

/-- What a reader says. -/
structure RD where
  (wh fr ex : ByteArray) (pt sc : Bool) (mi ma mf xf ms xs pr se : Int) (inc : ByteArray) (ps : Bool) (me : Int) (pp : Bool)
def expR (r : RD) : RD := if r.sc then { r with ps := true, pp := N.isPlus (N.L r.ex), me := (N.sp N.is0 (N.expX (N.L r.ex)) : Int) } else r
def mkB (l : List UInt8) : ByteArray := ⟨l.toArray⟩
theorem mkB_L (s : ByteArray) : mkB (N.L s) = s := Lib.mk_data s
theorem L_mkB (l : List UInt8) : N.L (mkB l) = l := by simp [N.L, mkB]
theorem mkB_size (l : List UInt8) : (mkB l).size = l.length := by simp [mkB, ByteArray.size]
def partsR (r : RD) (s : ByteArray) : RD := { r with wh := mkB (N.cutC 46 (N.L s)).1, fr := mkB (N.cutC 46 (N.L s)).2.1, pt := (N.cutC 46 (N.L s)).2.2 }
def groupsR (r : RD) : RD := { r with wh := mkB (N.plainN (N.L r.wh)), pr := if 1 < (N.splitC 44 (N.L r.wh)).length then (N.primN (N.splitC 44 (N.L r.wh)) : Int) else r.pr, se := if 1 < (N.splitC 44 (N.L r.wh)).length then (N.secN (N.splitC 44 (N.L r.wh)) : Int) else r.se }
theorem isE_iff (x : ByteArray) : x.toList.isEmpty = decide (N.L x = []) := by
  rw [Lib.toList_data]
  show (N.L x).isEmpty = _
  cases N.L x <;> simp

theorem L_app (x y : ByteArray) : N.L (x ++ y) = N.L x ++ N.L y := by simp [N.L, ByteArray.data_append]
theorem L_ext (s : ByteArray) (i j : Nat) : N.L (s.extract i j) = ((N.L s).drop i).take (j - i) := Lib.extract_data s i j
def rd0 : RD := ⟨⟨#[]⟩, ⟨#[]⟩, ⟨#[]⟩, false, false, 0, 0, 0, 0, 0, 0, 0, 0, ⟨#[]⟩, false, 0, false⟩
theorem results_cell_tmp {P : Program} {fn : Func} {p u : Tmp} {ty : TypeId} (h : fn.results = #[.cell p ty, .tmp u]) (tmps : Array Value) (w : World) (g : Nat) (t : TypeId) (cs : Array Value) (fr : Nat × Nat) (d : TypeDesc)
    (hp : tmps.getD p undef = .pointer (some ⟨g, 0, none⟩)) (hg : w.heap[g]? = some (.cells cs t fr))
    (hu : P.underlying ty = some d) (hd : (match d with | .struct _ | .array _ _ => true | _ => false) = true) (hi : (P.info? ty).map (·.size) = some cs.size) :
    (results fn tmps).run P w = .ok (.tuple #[.agg cs, tmps.getD u undef]) w := by
  have hp' : tmps[p]?.getD undef = .pointer (some ⟨g, 0, none⟩) := by simpa using hp
  simp [results, h, hp', asAddr, run_loadVar_row w g t ty cs fr d hg hu hd hi]
/-- What the reader says behind each step. -/
def r1 (s : ByteArray) : RD := { rd0 with ex := mkB (N.expN (N.L s)), sc := N.sciN (N.L s) }
def r2 (s : ByteArray) : RD := expR (r1 s)
def r3 (s : ByteArray) : RD := partsR (r2 s) (mkB (N.bodyN (N.L s)))
def r4 (s : ByteArray) : RD := groupsR (r3 s)
def patN (p : N.NP) : Array Value := #[.slice none 0 0, .slice none 0 0, .bool false, .slice none 0 0, .slice none 0 0, .int .i64 p.minInt, .int .i64 p.maxInt, .int .i64 p.minFrac, .int .i64 p.maxFrac, .int .i64 p.minSig, .int .i64 p.maxSig, .int .i64 p.prim, .int .i64 p.sec, .string (mkB p.inc), .bool p.sci, .int .i64 p.minExp, .bool p.plus, .int .i64 0, .int .i32 0, .int .i64 0]
theorem store_row_event {P : Program} {ops : Array Oper} {rest : List Oper} {o : Oper} {a : Act} {Q : Exit → Act → World → Prop} {W : World} (hgd : o.guard = none) (hN : o.dst = none) {t : TypeId} {p : Tmp} {v : Operand} (ho : o.op = .store t (.tmp p) v) (g : Nat) (cells old : Array Value) (e : TypeId)
    (hx : a.eval (.tmp p) = .pointer (some ⟨g, 0, none⟩)) (hy : a.eval v = .agg cells) (hg : W.heap[g]? = some (.cells old e (0, 0))) (hi : (P.info? t).map (·.size) = some cells.size) (hs : old.size = cells.size) (h1 : cells.all (·.oneCell') = true)
    (h : wpList P ops Q rest a (W.setRow g cells)) : wpList P ops Q (o :: rest) a W :=
  wpList_plain hgd fun K hK => wp_store_row t (.tmp p) v ho g cells hx hy e old hg hi hs h1 (hK _ _ (by rw [hN]; exact h))
theorem below_row {w W : World} {g : Nat} {cs : Array Value} (h : Below w.heap.size w W) (hg : w.heap.size ≤ g) : Below w.heap.size w (W.setRow g cs) :=
  ⟨h.os, h.tape, h.output, by rw [setRow_size]; exact h.size, fun k hk => (setRow_other W g k cs (by omega)).trans (h.block k hk)⟩

theorem mkB_app (a b : List UInt8) : mkB a ++ mkB b = mkB (a ++ b) := by
  apply ByteArray.ext
  simp [mkB]
theorem row_range {w : World} {b : Nat} {t : TypeId} {cs : Array Value} (h : w.heap[b]? = some (.cells cs t (0, 0))) : w.rangeAt b 0 cs.toList := fun j v hv => by
  rw [Nat.zero_add, blk_cell h j]
  rwa [← Array.getElem?_toList]

/-- A variable of the call's own is written whole: the world behind it. -/
structure PutAt (g : Nat) (W w' : World) : Prop where
  below : ∀ {w0 : World}, Below w0.heap.size w0 W → w0.heap.size ≤ g → Below w0.heap.size w0 w'
  other : ∀ {k : Nat} {o : Obj}, W.heap[k]? = some o → k ≠ g → w'.heap[k]? = some o
  size : w'.heap.size = W.heap.size
theorem store_new_event {P : Program} {ops : Array Oper} {rest : List Oper} {o : Oper} {a : Act} {Q : Exit → Act → World → Prop} {W : World} (hgd : o.guard = none) (hN : o.dst = none) {t : TypeId} {p : Tmp} {v : Operand} (ho : o.op = .store t (.tmp p) v) (g : Nat) (cells old : Array Value) (e : TypeId)
    (hx : a.eval (.tmp p) = .pointer (some ⟨g, 0, none⟩)) (hy : a.eval v = .agg cells) (hg : W.heap[g]? = some (.cells old e (0, 0))) (hi : (P.info? t).map (·.size) = some cells.size) (hs : old.size = cells.size) (h1 : cells.all (·.oneCell') = true)
    (h : ∀ w', w'.heap[g]? = some (.cells cells e (0, 0)) → PutAt g W w' → wpList P ops Q rest a w') : wpList P ops Q (o :: rest) a W :=
  store_row_event hgd hN ho g cells old e hx hy hg hi hs h1 (h _ (setRow_heap _ _ _ _ _ _ hg) ⟨fun hb hw => below_row hb hw, fun hk hn => (setRow_other _ _ _ _ hn).trans hk, setRow_size _ _ _⟩)
theorem patN_one (p : N.NP) : (patN p).all (·.oneCell') = true := by simp [patN, Value.oneCell']
/-- A pattern's cells, of plain numbers. -/
def patI (mi ma mf xf ms xs pr se : Int) (ic : ByteArray) (sci : Bool) (me : Int) (pl : Bool) : Array Value := #[.slice none 0 0, .slice none 0 0, .bool false, .slice none 0 0, .slice none 0 0, .int .i64 mi, .int .i64 ma, .int .i64 mf, .int .i64 xf, .int .i64 ms, .int .i64 xs, .int .i64 pr, .int .i64 se, .string ic, .bool sci, .int .i64 me, .bool pl, .int .i64 0, .int .i32 0, .int .i64 0]
theorem patI_one (mi ma mf xf ms xs pr se : Int) (ic : ByteArray) (sci : Bool) (me : Int) (pl : Bool) : (patI mi ma mf xf ms xs pr se ic sci me pl).all (·.oneCell') = true := by simp [patI, Value.oneCell']
end Go.Proofs.Ytkgdpgoianimjaa.Print
