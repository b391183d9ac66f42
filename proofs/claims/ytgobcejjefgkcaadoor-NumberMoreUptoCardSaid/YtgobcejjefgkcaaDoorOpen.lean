/- From what a row reads of its arguments to the kinds' own words: what is read of a type is of the type's kind, its numbers are of their kinds, its bulk is at least the kind's own measure. Nothing is assumed. -/
import Derived.Test.YtgobcejjefgkcaaDoorRows
import Derived.Test.YtgobcejjefgkcaaDoorWMore
import Derived.ChangeArms
import Derived.WideShapes
import Derived.SizedLaws
import Derived.OpenShut
namespace Go.Proofs.YtgobcejjefgkcaaDoor.Opn
open Go.RowKit Go.WideShapes Go.ChangeShapes Go.Proofs.YtgobcejjefgkcaaDoorW.PrintWords
set_option linter.unusedVariables false
set_option linter.unusedSimpArgs false

structure Opens (P : Program) (t : TypeId) {α : Type} (d : Kd α) (wf : α → Prop) (bulk : α → Nat) : Prop where
  out : ∀ {H : Type} {enc : TypeId × Value → H} {w : World} {base : Nat} {sp : Nat → Bool} {held : Bool} {fuel : Nat} {cs : List Value} {x : DataW H × List MemPlace},
    DataW.trod enc P w base sp held fuel t cs = some x → ∃ a, d.K w a cs ∧ wf a ∧ bulk a ≤ Rows.uptoBulk x.1
structure OpensF (P : Program) (off : Nat) (fs : List Field) {α : Type} (d : Kd α) (wf : α → Prop) (bulk : α → Nat) : Prop where
  out : ∀ {H : Type} {enc : TypeId × Value → H} {w : World} {base : Nat} {sp : Nat → Bool} {held : Bool} {n : Nat} {cs : List Value} {xs : List (DataW H × List MemPlace)},
    xs.length = fs.length → (∀ (i : Nat) (f : Field), fs[i]? = some f → DataW.trod enc P w base sp held n f.type ((cs.drop f.offset).take (P.cellsOf f.type)) = xs[i]?) →
    ∃ a, d.K w a ((cs.drop off).take d.sz) ∧ wf a ∧ bulk a ≤ Rows.uptoBulkAll (xs.map (·.1))

section
variable {P : Program} {t e : TypeId} {α β : Type} {d : Kd α} {wf : α → Prop} {bulk : α → Nat}
theorem opens_int {k : IntKind} (hu : P.underlying t = some (.int k)) : Opens P t (Kd.int k) (fun a => (Lit.int k a).wf = true) (fun _ => 1) :=
  ⟨fun h => by
    obtain ⟨n, rfl, rfl, hw⟩ := DataW.trod_int hu h
    exact ⟨n, rfl, hw, by simp [Rows.uptoBulk]⟩⟩
theorem opens_bool (hu : P.underlying t = some .bool) : Opens P t Kd.bool (fun _ => True) (fun _ => 1) :=
  ⟨fun h => by
    obtain ⟨n, rfl, rfl⟩ := DataW.trod_bool hu h
    exact ⟨n, rfl, trivial, by simp [Rows.uptoBulk]⟩⟩
theorem opens_string (hu : P.underlying t = some .string) : Opens P t Kd.string (fun a => a.size ≤ maxLen) (fun a => a.size + 1) :=
  ⟨fun h => by
    obtain ⟨s, rfl, rfl, hs⟩ := DataW.trod_string hu h
    exact ⟨s, rfl, hs, by simp [Rows.uptoBulk, data_length]⟩⟩

theorem pick_list {Q : Nat → α → Prop} : ∀ n, (∀ i, i < n → ∃ a, Q i a) → ∃ l : List α, l.length = n ∧ ∀ i a, l[i]? = some a → Q i a
  | 0, _ => ⟨[], rfl, fun i a h => by simp at h⟩
  | n + 1, h => by
    obtain ⟨l, hl, hq⟩ := pick_list n (fun i hi => h i (by omega))
    obtain ⟨a, ha⟩ := h n (by omega)
    refine ⟨l ++ [a], by simp [hl], fun i b hb => ?_⟩
    rcases Nat.lt_or_ge i l.length with hi | hi
    · rw [List.getElem?_append_left hi] at hb
      exact hq i b hb
    · have hi2 : i = l.length := by
        have := (List.getElem?_eq_some_iff.1 hb).1
        simp at this
        omega
      subst hi2
      simp at hb
      subst hb
      rw [hl]
      exact ha
theorem sum_le {H : Type} : ∀ (l : List α) (ds : List (DataW H)), l.length = ds.length → (∀ (i : Nat) a x, l[i]? = some a → ds[i]? = some x → bulk a ≤ Rows.uptoBulk x) → (l.map bulk).sum ≤ Rows.uptoBulkAll ds
  | [], _, _, _ => by simp
  | a :: l, [], h, _ => by simp at h
  | a :: l, x :: ds, h, hb => by
    have h1 := hb 0 a x rfl rfl
    have h2 := sum_le l ds (by simpa using h) (fun i b y hi hy => hb (i + 1) b y (by simpa using hi) (by simpa using hy))
    simp only [List.map_cons, List.sum_cons, Rows.uptoBulkAll]
    omega
theorem add_add (a : Addr) (i j : Nat) : (a.add i).add j = a.add (i + j) := by
  unfold Addr.add
  by_cases h1 : i = 0 <;> by_cases h2 : j = 0 <;> simp [h1, h2, Nat.add_assoc]

theorem opens_slice (hu : P.underlying t = some (.slice e)) (hc : P.cellsOf e = d.sz) (h : Opens P e d wf bulk) :
    Opens P t (Kd.slice e d) (fun l => l.length ≤ maxLen ∧ ∀ a ∈ l, wf a) (fun l => (l.map bulk).sum + 1) :=
  ⟨fun {H enc w base sp held fuel cs x} ht => by
    rcases DataW.trod_slice hu ht with ⟨rfl, rfl⟩ | ⟨ad, len, cap, elems, rest, n, _, rfl, rfl, hb, hl, hm, hlen, hel, _, _⟩
    · exact ⟨[], ⟨none, 0, rfl, Nat.le_refl _, Kd.C_nil d w⟩, ⟨Nat.zero_le _, fun a ha => by cases ha⟩, by simp [Rows.uptoBulk]⟩
    · obtain ⟨l, hll, hq⟩ := pick_list (Q := fun i (a : α) => ∃ c, c.length = d.sz ∧ d.K w a c ∧ (∀ j u, c[j]? = some u → w.cell? (ad.add (i * d.sz + j)) = some u) ∧ wf a ∧ ∀ y, elems[i]? = some y → bulk a ≤ Rows.uptoBulk y.1) len (fun i hi => by
        have h1 := hel i hi
        rw [List.getElem?_eq_getElem (by omega)] at h1
        obtain ⟨c, hcc, htr⟩ := Option.bind_eq_some_iff.1 h1
        obtain ⟨a, hK, hw, hbk⟩ := h.out htr
        rw [hc] at hcc
        obtain ⟨_, hcl, hcell⟩ := World.cells?_some hcc
        refine ⟨a, c, hcl, hK, fun j u hu2 => ?_, hw, fun y hy => ?_⟩
        · have hj : j < d.sz := by rw [← hcl]; exact (List.getElem?_eq_some_iff.1 hu2).1
          rw [← add_add, hcell j hj, hu2]
        · rw [List.getElem?_eq_getElem (by omega)] at hy
          cases hy
          exact hbk)
      refine ⟨l, ⟨some ad, cap, by rw [hll], by omega, rfl, by simp only [maxLen] at hm; omega, fun _ => ⟨ad, rfl, fun j p hj => ?_⟩⟩, ⟨by omega, fun a ha => ?_⟩, ?_⟩
      · obtain ⟨c, h1, h2, h3, _⟩ := hq j p hj
        exact ⟨c, h1, h2, h3⟩
      · obtain ⟨i, hi⟩ := List.getElem?_of_mem ha
        obtain ⟨c, _, _, _, h4, _⟩ := hq i a hi
        exact h4
      · have := sum_le (bulk := bulk) l (elems.map (·.1)) (by simp [hll, hlen]) (fun i a y ha hy => by
          obtain ⟨c, _, _, _, _, h5⟩ := hq i a ha
          rw [List.getElem?_map, Option.map_eq_some_iff] at hy
          obtain ⟨z, hz, rfl⟩ := hy
          exact h5 z hz)
        simp only [Rows.uptoBulk]
        omega⟩

theorem opensF_one {off : Nat} {f : Field} (ho : f.offset = off) (hc : P.cellsOf f.type = d.sz) (h : Opens P f.type d wf bulk) : OpensF P off [f] d wf bulk :=
  ⟨fun {H enc w base sp held n cs xs} hl hx => by
    obtain ⟨x, rfl⟩ : ∃ x, xs = [x] := by
      match xs, hl with
      | [x], _ => exact ⟨x, rfl⟩
    have h0 := hx 0 f rfl
    rw [ho, hc] at h0
    obtain ⟨a, hK, hw, hb⟩ := h.out (x := x) h0
    exact ⟨a, hK, hw, by simpa [Rows.uptoBulkAll] using hb⟩⟩
theorem opensF_cons {off : Nat} {f : Field} {fs : List Field} {d2 : Kd β} {wf2 : β → Prop} {bulk2 : β → Nat} (ho : f.offset = off) (hc : P.cellsOf f.type = d.sz) (h : Opens P f.type d wf bulk) (h2 : OpensF P (off + d.sz) fs d2 wf2 bulk2) :
    OpensF P off (f :: fs) (Kd.pair d d2) (fun x => wf x.1 ∧ wf2 x.2) (fun x => bulk x.1 + bulk2 x.2) :=
  ⟨fun {H enc w base sp held n cs xs} hl hx => by
    obtain ⟨x, ys, rfl⟩ : ∃ x ys, xs = x :: ys := by
      match xs, hl with
      | x :: ys, _ => exact ⟨x, ys, rfl⟩
    have h0 := hx 0 f rfl
    rw [ho, hc] at h0
    obtain ⟨a, hK, hw, hb⟩ := h.out (x := x) h0
    obtain ⟨b, hK2, hw2, hb2⟩ := h2.out (cs := cs) (xs := ys) (by simpa using hl) (fun i g hg => by simpa using hx (i + 1) g (by simpa using hg))
    refine ⟨(a, b), ⟨(cs.drop off).take d.sz, (cs.drop (off + d.sz)).take d2.sz, ?_, hK, hK2⟩, ⟨hw, hw2⟩, ?_⟩
    · show (cs.drop off).take (d.sz + d2.sz) = _
      rw [List.take_add, List.drop_drop]
    · simp only [List.map_cons, Rows.uptoBulkAll]
      omega⟩
theorem opens_struct {fs : Array Field} {l : List Field} (hu : P.underlying t = some (.struct fs)) (hfs : fs.toList = l) (hc : P.cellsOf t = d.sz) (h : OpensF P 0 l d wf bulk) (f : β → α) (g : α → β) (hfg : ∀ a, f (g a) = a) :
    Opens P t (Kd.iso d f) (fun b => wf (f b)) (fun b => bulk (f b) + 1) :=
  ⟨fun {H enc w base sp held fuel cs x} ht => by
    subst hfs
    obtain ⟨xs, n, _, rfl, hcl, hxl, hall⟩ := DataW.trod_struct hu ht
    obtain ⟨a, hK, hw, hb⟩ := h.out (cs := cs) (xs := xs) (by simpa using hxl) (fun i f hf => hall i f (by simpa using hf))
    have hcs : (cs.drop 0).take d.sz = cs := by rw [List.drop_zero, List.take_of_length_le (by omega)]
    rw [hcs] at hK
    refine ⟨g a, ?_, ?_, ?_⟩
    · show d.K w (f (g a)) cs
      rw [hfg]; exact hK
    · show wf (f (g a))
      rw [hfg]; exact hw
    · show bulk (f (g a)) + 1 ≤ _
      rw [hfg]
      simp only [Rows.uptoBulk]
      omega⟩

section
variable {H : Type} {enc : TypeId × Value → H} {W : World} {r : Reach} {b0 : Nat} {v : Value} {x : DataW H} {ps : List MemPlace}
/-- A slice that is an argument. -/
theorem open_row (hu : P.underlying t = some (.slice e)) (hc : P.cellsOf e = d.sz) (h : Opens P e d wf bulk) {ts : List TypeId} {ds : List (DataW H)} {j B : Nat} (hB : P.bytesOf e = B)
    (hsz : (DataW.weightsEach P ts ds).all (· ≤ reachBytes) = true) (hj : ts[j]? = some t) (hd : ds[j]? = some x)
    (hval : Value.okWide P W r b0 t v) (ht : DataW.Trod enc P W 0 (fun _ => true) true t v x ps) :
    ∃ (A : Option Addr) (l : List α) (c : Nat), v = .slice A l.length c ∧ l.length ≤ c ∧ d.C W A l.length l ∧ l.length * B ≤ 140737488351232 ∧ (∀ a ∈ l, wf a) ∧ (l.map bulk).sum + 1 ≤ Rows.uptoBulk x := by
  obtain ⟨fuel, hf⟩ := ht
  obtain ⟨A0, len, cap, rfl⟩ := okWide_slice hu hval
  obtain ⟨l, ⟨A, c, hcs, hlc, hC⟩, ⟨hlm, hw⟩, hb⟩ := (opens_slice hu hc h).out hf
  simp [Value.cells] at hcs
  obtain ⟨rfl, rfl, rfl⟩ := hcs
  refine ⟨_, l, _, rfl, hlc, hC, ?_, hw, hb⟩
  rcases DataW.trod_slice hu hf with ⟨hcs, _⟩ | ⟨ad, len, cap, elems, rest, n, _, hcs, hx, _, hl, _, hlen, _, _, _⟩
  · simp [Value.cells] at hcs
    rw [hcs.2.1]
    simp
  · simp [Value.cells] at hcs
    obtain ⟨_, rfl, _⟩ := hcs
    obtain ⟨rfl, _⟩ := Prod.mk.inj hx
    have z := sized_slice hsz hj hd hu
    rw [hB] at z
    simp only [List.length_map] at z
    rw [hlen] at z
    exact Nat.le_trans (Nat.mul_le_mul_right _ (by omega)) z
/-- A struct that is an argument. -/
theorem open_record {fs : Array Field} (hu : P.underlying t = some (.struct fs)) (h : Opens P t d wf bulk) (hval : Value.okWide P W r b0 t v) (ht : DataW.Trod enc P W 0 (fun _ => true) true t v x ps) :
    ∃ (a : α) (cs : Array Value), v = .agg cs ∧ d.K W a cs.toList ∧ wf a ∧ bulk a ≤ Rows.uptoBulk x := by
  obtain ⟨fuel, hf⟩ := ht
  have hv := hval
  unfold Value.okWide at hv
  simp only [hu] at hv
  obtain ⟨cs, rfl, _, _⟩ := hv
  obtain ⟨a, hK, hw, hb⟩ := h.out hf
  exact ⟨a, cs, rfl, hK, hw, hb⟩
theorem arr_of {cs : Array Value} {l : List Value} (h : cs.toList = l) : cs = l.toArray := by
  subst h
  simp
end
end
end Go.Proofs.YtgobcejjefgkcaaDoor.Opn
